/- Printed by the kit's print.py: functions of layer 35 and its answer. -/
import Derived.Test.YtoljjgabgdifbaaZaG5
namespace Go.Proofs.Ytoljjgabgdifbaa.H
open Go.RowKit Go.Proofs.YtoljjgabgdifbaaW.PrintWords Go.Proofs.YtoljjgabgdifbaaW.PrintLast Go.Proofs.YtoljjgabgdifbaaW.PrintMore
attribute [local go_sem] max2_int min2_int max_two min_two max_three min_three max_four min_four
set_option linter.unusedVariables false
set_option linter.unusedSimpArgs false
/-! ### hibernacleref35_done: function 32 -/
mutual
def hibernacleref35_done.l0 : Nat → List (S36) → List ByteArray → Int → Option (List ByteArray × Bool)
  | 0, _, _, _ => none
  | k + 1, x1, x6, x7 => if x7 < (x1.length : Int) then (if 0 ≤ x7 then (if ((rd_T36 x1 x7).f0) < 0 then (hibernacleref35_done.j1 k x1 x6 x7 ((rd_T36 x1 x7).f0) true) else (hibernacleref35_done.j1 k x1 x6 x7 ((rd_T36 x1 x7).f0) (decide (((rd_T36 x1 x7).f0) > (x6.length : Int))))) else (none)) else (some (x6, true))
def hibernacleref35_done.j1 : Nat → List (S36) → List ByteArray → Int → Int → Bool → Option (List ByteArray × Bool)
  | 0, _, _, _, _, _ => none
  | k + 1, x1, x6, x7, x8, x30 => if x30 = true then (some ((([] : List ByteArray)), false)) else (if x8 = (x6.length : Int) then (if x6.length < 8796093022208 then ((some (x6 ++ [(⟨#[]⟩ : ByteArray)] : List ByteArray)).bind fun y290 => (if 0 ≤ x7 then (if x7 < (x1.length : Int) then (if 0 ≤ x8 then (if x8 < (y290.length : Int) then (hibernacleref35_done.l0 k x1 (y290.set (x8 : Int).toNat ((rd_T36 x1 x7).f1)) (wrap64 (x7 + 1))) else (none)) else (none)) else (none)) else (none))) else (none)) else (if 0 ≤ x7 then (if x7 < (x1.length : Int) then (if 0 ≤ x8 then (if x8 < (x6.length : Int) then (hibernacleref35_done.l0 k x1 (x6.set (x8 : Int).toNat ((rd_T36 x1 x7).f1)) (wrap64 (x7 + 1))) else (none)) else (none)) else (none)) else (none)))
end
def hibernacleref35_done.f (k : Nat) (l0 : List ByteArray) (l1 : List (S36)) : Option (List ByteArray × Bool) := (some (([] : List ByteArray) : List ByteArray)).bind fun y280 => (if y280.length + l0.length < 8796093022208 then (hibernacleref35_done.l0 k l1 (y280 ++ l0) 0) else (none))
theorem hibernacleref35_done.mono_l : ∀ k, (∀ y0 y1 y2, LeO (hibernacleref35_done.l0 k y0 y1 y2) (hibernacleref35_done.l0 (k + 1) y0 y1 y2)) ∧ (∀ y0 y1 y2 y3 y4, LeO (hibernacleref35_done.j1 k y0 y1 y2 y3 y4) (hibernacleref35_done.j1 (k + 1) y0 y1 y2 y3 y4))
  | 0 => ⟨fun _ _ _ r h => by simp [hibernacleref35_done.l0] at h, fun _ _ _ _ _ r h => by simp [hibernacleref35_done.j1] at h⟩
  | k + 1 => by
    obtain ⟨ih0, ih1⟩ := hibernacleref35_done.mono_l k
    refine ⟨?_, ?_⟩
    · intro y0 y1 y2
      unfold hibernacleref35_done.l0
      repeat' first
      | (with_reducible exact ih0 _ _ _)
      | (with_reducible exact ih1 _ _ _ _ _)
      | (with_reducible exact LeO.refl _)
      | (with_reducible exact LeO.none _)
      | (with_reducible refine LeO.ite ?_ ?_)
      | (with_reducible refine LeO.bind ?_ (fun _ => ?_))
      | exact ih0 _ _ _
      | exact ih1 _ _ _ _ _
      | exact LeO.none _
      | refine LeO.ite ?_ ?_
      | refine LeO.bind ?_ (fun _ => ?_)
    · intro y0 y1 y2 y3 y4
      unfold hibernacleref35_done.j1
      repeat' first
      | (with_reducible exact ih0 _ _ _)
      | (with_reducible exact ih1 _ _ _ _ _)
      | (with_reducible exact LeO.refl _)
      | (with_reducible exact LeO.none _)
      | (with_reducible refine LeO.ite ?_ ?_)
      | (with_reducible refine LeO.bind ?_ (fun _ => ?_))
      | exact ih0 _ _ _
      | exact ih1 _ _ _ _ _
      | exact LeO.none _
      | refine LeO.ite ?_ ?_
      | refine LeO.bind ?_ (fun _ => ?_)
theorem hibernacleref35_done.mono : ∀ a0 a1 k, LeO (hibernacleref35_done.f k a0 a1) (hibernacleref35_done.f (k + 1) a0 a1) := by
  intro a0 a1 k
  obtain ⟨ih0, ih1⟩ := hibernacleref35_done.mono_l k
  unfold hibernacleref35_done.f
  repeat' first
      | (with_reducible exact ih0 _ _ _)
      | (with_reducible exact ih1 _ _ _ _ _)
      | (with_reducible exact LeO.refl _)
      | (with_reducible exact LeO.none _)
      | (with_reducible refine LeO.ite ?_ ?_)
      | (with_reducible refine LeO.bind ?_ (fun _ => ?_))
      | exact ih0 _ _ _
      | exact ih1 _ _ _ _ _
      | exact LeO.none _
      | refine LeO.ite ?_ ?_
      | refine LeO.bind ?_ (fun _ => ?_)
set_option maxHeartbeats 8000000 in
set_option maxRecDepth 100000 in
theorem hibernacleref35_done.calls (k : Nat) (A0 : Option Addr) (c0 : Nat) (l0 : List ByteArray) (A1 : Option Addr) (c1 : Nat) (l1 : List (S36)) (r1 : List ByteArray) (r2 : Bool) (w : World) (hr0 : Kd.C Kd.string w A0 l0.length l0) (hc0 : l0.length ≤ c0) (hr1 : Kd.C k36 w A1 l1.length l1) (hc1 : l1.length ≤ c1) (h : hibernacleref35_done.f k l0 l1 = some (r1, r2)) :
    Calls Try.prog 32 #[.slice A0 l0.length c0, .slice A1 l1.length c1] w fun e w' => ∃ v0_ : Value, e = .returned (.tuple #[v0_, .bool r2]) ∧ Kd.R Kd.string 9 w' w.heap.size (fun _ => True) v0_ r1 ∧ Below w.heap.size w w' := by
  have HR0 := Aside0.mk hr0
  have HC0 := Aside0.mk hc0
  clear hr0 hc0
  have HR1 := Aside0.mk hr1
  have HC1 := Aside0.mk hc1
  clear hr1 hc1
  have HB := Aside0.mk (Below.refl w.heap.size w)
  have H : ((some (([] : List ByteArray) : List ByteArray)).bind fun y280 => (if y280.length + l0.length < 8796093022208 then (hibernacleref35_done.l0 k l1 (y280 ++ l0) 0) else (none))) = some (r1, r2) := h
  clear h
  obtain ⟨y280, hy280⟩ : ∃ y_ : List ByteArray, y_ = (([] : List ByteArray)) := ⟨_, rfl⟩
  replace H : (if y280.length + l0.length < 8796093022208 then (hibernacleref35_done.l0 k l1 (y280 ++ l0) 0) else (none)) = some (r1, r2) := by first | (rw [hy280]; with_reducible exact H) | (have H2_ := (Option.bind_some _ _).symm.trans H; rw [hy280]; with_reducible exact H2_) | (have H2_ := (Option.bind_some _ _).symm.trans H; with_reducible exact H2_) | with_reducible exact H | (rw [hy280]; exact H) | exact H
  have Ny280 := Aside0.mk hy280
  clear hy280
  by_cases c3 : y280.length + l0.length < 8796093022208
  · rw [if_pos c3] at H
    have LMc3 := Aside0.mk c3
    clear c3
    obtain ⟨y283, hy283⟩ : ∃ y_ : List ByteArray, y_ = (y280 ++ l0) := ⟨_, rfl⟩
    replace H : (hibernacleref35_done.l0 k l1 y283 0) = some (r1, r2) := by first | (rw [hy283]; with_reducible exact H) | (have H2_ := (Option.bind_some _ _).symm.trans H; rw [hy283]; with_reducible exact H2_) | (have H2_ := (Option.bind_some _ _).symm.trans H; with_reducible exact H2_) | with_reducible exact H | (rw [hy283]; exact H) | exact H
    have Ny283 := Aside0.mk hy283
    clear hy283
    have H' := Aside0.mk H
    clear H
    go_enter Try.func32, Try.ntmps32
    go_wp2_with (first | ((with_reducible refine gate_dst (N := 9) rfl ?_); (try (refine gate_guard (by rfl) ?_; dsimp only)); refine Kd.R_lit Kd.string _ 9 ?hg (N := 9) ?hd (xs := ([] : List ByteArray)) (inner := []) (ok := fun _ => True) (okp := fun _ => True) ?hr ?hp (fun _ hk => hk) trivial (Below.refl _ _) (Nat.le_refl _) (by simp) ?_; (case hd => rfl); (case hg => rfl); (case hr => first | (go_simp; done) | (go_simp; rfl)); (case hp => exact (Reps.none _ _)); intro v281 w4 ho5 hb hg_ hnew_; clear hg_ hnew_; (first | rw [← Ny280.out] at ho5 | (simp only [Int.reduceToNat] at ho5; rw [← Ny280.out] at ho5)); have n0_ := Aside0.mk (Kd.R_lower ho5 (below_size (by repeat (first | (with_reducible first | exact HB.out | apply below_alloc | apply pw_below_drewN | apply below_drew1) | exact HB.out)))); have n1_ := Aside0.mk (below_step (by repeat (first | (with_reducible first | exact HB.out | apply below_alloc | apply pw_below_drewN | apply below_drew1) | exact HB.out)) hb); clear HB; have HO282 := n0_; have HB := n1_; clear n0_ n1_; clear hb ho5) | ((with_reducible refine gate_builtin (b := .append) (xs := #[.tmp 9, .tmp 10]) rfl ?_); (try (refine gate_guard (by rfl) ?_; dsimp only)); at_builtin; refine Kd.R_append_rows Kd.string (w0 := w) w.heap.size rfl (.tmp 9) (.tmp 10) 22 9 (.string ⟨#[]⟩) 16 rfl Try.underlying22 info9 rfl (by decide) (by omega) v281 y280 l0 _ _ _ (fun _ => True) (fun _ => False) rfl rfl ?aO ?aR (fun _ _ h => h) (fun _ h => h.elim) ?aF ?aB ?aS ?aL ?_; (case aR => repeat (first | exact (Kd.C_below HR0.out HB.out) | (with_reducible refine Kd.C_alloc ?_ _) | (with_reducible refine Kd.C_drewN ?_ _) | (with_reducible refine Kd.C_drew ?_))); (case aB => exact (by repeat (first | (with_reducible first | exact HB.out | apply below_alloc | apply pw_below_drewN | apply below_drew1) | exact HB.out))); (case aF => exact (fun _ _ => trivial)); (case aO => exact (by (with_reducible repeat (first | apply Kd.R_alloc | apply Kd.R_drewN | apply Kd.R_drew)); exact HO282.out)); (case aS => exact (below_size (by repeat (first | (with_reducible first | exact HB.out | apply below_alloc | apply pw_below_drewN | apply below_drew1) | exact HB.out)))); (case aL => have := LMc3.out; omega); intro v284 w6 ho hb hg hat; rw [← Ny283.out] at ho; have n0_ := Aside0.mk (hb); have n1_ := Aside0.mk (ho); clear HB; clear HO282; have HB := n0_; have HO285 := n1_; clear n0_ n1_; clear ho hb hg hat))
    go_loopg [6, 7] k (fun kq v6 v7 w' => ∃ (x6_1 : List ByteArray) (x7_1 : Int), v7 = .int .i64 x7_1 ∧ Aside0 (hibernacleref35_done.l0 kq l1 x6_1 x7_1 = some (r1, r2)) ∧ Aside0 (kq ≤ k) ∧ Aside0 (Kd.R Kd.string 9 w' w.heap.size (fun _ => True) v6 x6_1) ∧ Aside0 (Below w.heap.size w w'))
    case atStart => exact ⟨(y283), (0), (by first | rfl | (simp; done) | (simp [*]; done)), H', ⟨Nat.le_refl _⟩, ⟨by (with_reducible repeat (first | apply Kd.R_alloc | apply Kd.R_drewN | apply Kd.R_drew)); exact HO285.out⟩, ⟨by repeat (first | (with_reducible first | exact HB.out | apply below_alloc | apply pw_below_drewN | apply below_drew1) | exact HB.out)⟩⟩
    case round =>
      clear H'
      try clear c1
      try clear p2
      try clear c3
      obtain ⟨x6_1, x7_1, rfl, HA, HK1, HO_6, HB⟩ := hrel
      cases gk with
      | zero => exact absurd HA.out (by simp [hibernacleref35_done.l0])
      | succ k1 =>
        have H := HA.out
        clear HA
        simp only [hibernacleref35_done.l0] at H
        by_cases c7 : x7_1 < (l1.length : Int)
        · rw [if_pos c7] at H
          have c7b0 : decide (x7_1 < (l1.length : Int)) = true := decide_eq_true c7
          clear c7
          by_cases c8 : 0 ≤ x7_1
          · rw [if_pos c8] at H
            have c8b0 : decide (0 ≤ x7_1) = true := decide_eq_true c8
            clear c8
            have HC9 := Aside0.mk H
            clear H
            have p286 : 0 ≤ (x7_1 : Int) := of_decide_eq_true (by first | (with_reducible assumption) | assumption)
            have q286 : x7_1 < (l1.length : Int) := of_decide_eq_true (by first | (with_reducible assumption) | assumption)
            obtain ⟨ad286, e286, hx286_0, hx286_1⟩ := at_T36 HR1.out x7_1 p286 q286
            cases e286
            replace hx286_0 := (HB.out.cell (World.block_lt_of_cell? w _ hx286_0)).trans hx286_0
            replace hx286_1 := (HB.out.cell (World.block_lt_of_cell? w _ hx286_1)).trans hx286_1
            replace p286 := eq_true p286
            replace q286 := eq_true q286
            go_upto_region 6 with (fail)
            go_cut [30] (fun v30 wc => ∃ (kq : Nat) (x30_8 : Bool), v30 = .bool x30_8 ∧ Aside0 (hibernacleref35_done.j1 kq l1 x6_1 x7_1 ((rd_T36 l1 x7_1).f0) x30_8 = some (r1, r2)) ∧ Aside0 (kq ≤ k1) ∧ Aside0 (Kd.R Kd.string 9 wc w.heap.size (fun _ => True) u6 x6_1) ∧ Aside0 (Below w.heap.size w wc))
            case first =>
              have H := HC9.out
              clear HC9
              by_cases c10 : ((rd_T36 l1 x7_1).f0) < 0
              · rw [if_pos c10] at H
                have c10b0 : decide (((rd_T36 l1 x7_1).f0) < 0) = true := decide_eq_true c10
                clear c10
                (first | rw [c10b0] | (simp only [i64_w, i32_w]; rw [c10b0]) | skip)
                have H' := Aside0.mk H
                clear H
                go_wp2
                go_meet
                case rel => exact ⟨_, (true), (by first | rfl | (simp; done) | (simp [*]; done)), H', ⟨by have := HK1.out; first | omega | exact Nat.le_refl _⟩, ⟨by (with_reducible repeat (first | apply Kd.R_alloc | apply Kd.R_drewN | apply Kd.R_drew)); exact HO_6.out⟩, ⟨by repeat (first | (with_reducible first | exact HB.out | apply below_alloc | apply pw_below_drewN | apply below_drew1) | exact HB.out)⟩⟩
              · rw [if_neg c10] at H
                have c10b0 : decide (((rd_T36 l1 x7_1).f0) < 0) = false := decide_eq_false c10
                clear c10
                (first | rw [c10b0] | (simp only [i64_w, i32_w]; rw [c10b0]) | skip)
                have H' := Aside0.mk H
                clear H
                obtain ⟨Ao11, co11, eo11⟩ := Kd.R_slice HO_6.out
                subst eo11
                go_wp2
                go_meet
                case rel => exact ⟨_, (decide (((rd_T36 l1 x7_1).f0) > (x6_1.length : Int))), (by first | rfl | (simp; done) | (simp [*]; done)), H', ⟨by have := HK1.out; first | omega | exact Nat.le_refl _⟩, ⟨by (with_reducible repeat (first | apply Kd.R_alloc | apply Kd.R_drewN | apply Kd.R_drew)); exact HO_6.out⟩, ⟨by repeat (first | (with_reducible first | exact HB.out | apply below_alloc | apply pw_below_drewN | apply below_drew1) | exact HB.out)⟩⟩
            case rest =>
              clear HC9
              try clear c1
              try clear p2
              try clear q2
              try clear hx2
              try clear c3
              try clear c7
              try clear c7b0
              try clear c8
              try clear c8b0
              try clear c10
              try clear c10b0
              try clear hx286_0
              try clear hx286_1
              try clear p2
              try clear p286
              try clear q286
              obtain ⟨kq, x30_8, rfl, HA, HJ8, HO_6, HB⟩ := hcut
              cases kq with
              | zero => exact absurd HA.out (by simp [hibernacleref35_done.j1])
              | succ kj8 =>
                have H := HA.out
                clear HA
                simp only [hibernacleref35_done.j1] at H
                by_cases c12 : x30_8 = true
                · subst c12
                  have H1 : (some ((([] : List ByteArray)), false)) = some (r1, r2) := by rw [if_pos rfl] at H; exact H
                  clear H
                  have H := H1
                  clear H1
                  obtain ⟨y287, hy287⟩ : ∃ y_ : List ByteArray, y_ = (([] : List ByteArray)) := ⟨_, rfl⟩
                  replace H : (some (y287, false)) = some (r1, r2) := by first | (rw [hy287]; with_reducible exact H) | (have H2_ := (Option.bind_some _ _).symm.trans H; rw [hy287]; with_reducible exact H2_) | (have H2_ := (Option.bind_some _ _).symm.trans H; with_reducible exact H2_) | with_reducible exact H | (rw [hy287]; exact H) | exact H
                  have Ny287 := Aside0.mk hy287
                  clear hy287
                  simp only [Option.some.injEq, Prod.mk.injEq] at H
                  obtain ⟨rfl, rfl⟩ := H
                  go_wp2_with (first | ((with_reducible refine gate_dst (N := 31) rfl ?_); (try (refine gate_guard (by rfl) ?_; dsimp only)); refine Kd.R_lit Kd.string _ 9 ?hg (N := 31) ?hd (xs := ([] : List ByteArray)) (inner := []) (ok := fun _ => True) (okp := fun _ => True) ?hr ?hp (fun _ hk => hk) trivial (Below.refl _ _) (Nat.le_refl _) (by simp) ?_; (case hd => rfl); (case hg => rfl); (case hr => first | (go_simp; done) | (go_simp; rfl)); (case hp => exact (Reps.none _ _)); intro v288 w13 ho14 hb hg_ hnew_; clear hg_ hnew_; (first | rw [← Ny287.out] at ho14 | (simp only [Int.reduceToNat] at ho14; rw [← Ny287.out] at ho14)); have n0_ := Aside0.mk (Kd.R_elder' (by (with_reducible repeat (first | apply Kd.R_alloc | apply Kd.R_drewN | apply Kd.R_drew)); exact HO_6.out) (Kd.R_base ho14) hb); have n1_ := Aside0.mk (Kd.R_lower (Kd.R_new' ho14 (Kd.R_lt (by (with_reducible repeat (first | apply Kd.R_alloc | apply Kd.R_drewN | apply Kd.R_drew)); exact HO_6.out))) (below_size (by repeat (first | (with_reducible first | exact HB.out | apply below_alloc | apply pw_below_drewN | apply below_drew1) | exact HB.out)))); have n2_ := Aside0.mk (below_step (by repeat (first | (with_reducible first | exact HB.out | apply below_alloc | apply pw_below_drewN | apply below_drew1) | exact HB.out)) hb); clear HO_6; clear HB; have HO_6 := n0_; have HO289 := n1_; have HB := n2_; clear n0_ n1_ n2_; clear hb ho14))
                  go_ret2
                  exact ⟨_, by first | rfl | (simp [errW_none, errW_some] <;> rfl) | (simp [*, errW_none, errW_some] <;> rfl), by (with_reducible repeat (first | apply Kd.R_alloc | apply Kd.R_drewN | apply Kd.R_drew)); exact Kd.R_mono HO289.out (fun _ hk => trivial), by repeat (first | (with_reducible first | exact HB.out | apply below_alloc | apply pw_below_drewN | apply below_drew1) | exact HB.out)⟩
                · replace c12 := Bool.eq_false_iff.mpr c12
                  subst c12
                  have H1 : (if ((rd_T36 l1 x7_1).f0) = (x6_1.length : Int) then (if x6_1.length < 8796093022208 then ((some (x6_1 ++ [(⟨#[]⟩ : ByteArray)] : List ByteArray)).bind fun y290 => (if 0 ≤ x7_1 then (if x7_1 < (l1.length : Int) then (if 0 ≤ ((rd_T36 l1 x7_1).f0) then (if ((rd_T36 l1 x7_1).f0) < (y290.length : Int) then (hibernacleref35_done.l0 kj8 l1 (y290.set (((rd_T36 l1 x7_1).f0) : Int).toNat ((rd_T36 l1 x7_1).f1)) (wrap64 (x7_1 + 1))) else (none)) else (none)) else (none)) else (none))) else (none)) else (if 0 ≤ x7_1 then (if x7_1 < (l1.length : Int) then (if 0 ≤ ((rd_T36 l1 x7_1).f0) then (if ((rd_T36 l1 x7_1).f0) < (x6_1.length : Int) then (hibernacleref35_done.l0 kj8 l1 (x6_1.set (((rd_T36 l1 x7_1).f0) : Int).toNat ((rd_T36 l1 x7_1).f1)) (wrap64 (x7_1 + 1))) else (none)) else (none)) else (none)) else (none))) = some (r1, r2) := by rw [if_neg (show ¬ (false = true) by decide)] at H; exact H
                  clear H
                  have H := H1
                  clear H1
                  by_cases c15 : ((rd_T36 l1 x7_1).f0) = (x6_1.length : Int)
                  · rw [if_pos c15] at H
                    have c15b0 : (((rd_T36 l1 x7_1).f0) == (x6_1.length : Int)) = true := beq_iff_eq.mpr c15
                    have c15b1 : (((rd_T36 l1 x7_1).f0) != (x6_1.length : Int)) = false := bne_eq_false_iff_eq.mpr c15
                    clear c15
                    by_cases c16 : x6_1.length < 8796093022208
                    · rw [if_pos c16] at H
                      have LMc16 := Aside0.mk c16
                      clear c16
                      obtain ⟨y290, hy290⟩ : ∃ y_ : List ByteArray, y_ = (x6_1 ++ [(⟨#[]⟩ : ByteArray)]) := ⟨_, rfl⟩
                      replace H : (if 0 ≤ x7_1 then (if x7_1 < (l1.length : Int) then (if 0 ≤ ((rd_T36 l1 x7_1).f0) then (if ((rd_T36 l1 x7_1).f0) < (y290.length : Int) then (hibernacleref35_done.l0 kj8 l1 (y290.set (((rd_T36 l1 x7_1).f0) : Int).toNat ((rd_T36 l1 x7_1).f1)) (wrap64 (x7_1 + 1))) else (none)) else (none)) else (none)) else (none)) = some (r1, r2) := by first | (rw [hy290]; with_reducible exact H) | (have H2_ := (Option.bind_some _ _).symm.trans H; rw [hy290]; with_reducible exact H2_) | (have H2_ := (Option.bind_some _ _).symm.trans H; with_reducible exact H2_) | with_reducible exact H | (rw [hy290]; exact H) | exact H
                      have Ny290 := Aside0.mk hy290
                      clear hy290
                      by_cases c17 : 0 ≤ x7_1
                      · rw [if_pos c17] at H
                        have c17b0 : decide (0 ≤ x7_1) = true := decide_eq_true c17
                        clear c17
                        by_cases c18 : x7_1 < (l1.length : Int)
                        · rw [if_pos c18] at H
                          have c18b0 : decide (x7_1 < (l1.length : Int)) = true := decide_eq_true c18
                          clear c18
                          by_cases c19 : 0 ≤ ((rd_T36 l1 x7_1).f0)
                          · rw [if_pos c19] at H
                            have c19b0 : decide (0 ≤ ((rd_T36 l1 x7_1).f0)) = true := decide_eq_true c19
                            clear c19
                            by_cases c20 : ((rd_T36 l1 x7_1).f0) < (y290.length : Int)
                            · rw [if_pos c20] at H
                              have c20b0 : decide (((rd_T36 l1 x7_1).f0) < (y290.length : Int)) = true := decide_eq_true c20
                              clear c20
                              obtain ⟨y294, hy294⟩ : ∃ y_ : List ByteArray, y_ = (y290.set (((rd_T36 l1 x7_1).f0) : Int).toNat ((rd_T36 l1 x7_1).f1)) := ⟨_, rfl⟩
                              replace H : (hibernacleref35_done.l0 kj8 l1 y294 (wrap64 (x7_1 + 1))) = some (r1, r2) := by first | (rw [hy294]; with_reducible exact H) | (have H2_ := (Option.bind_some _ _).symm.trans H; rw [hy294]; with_reducible exact H2_) | (have H2_ := (Option.bind_some _ _).symm.trans H; with_reducible exact H2_) | with_reducible exact H | (rw [hy294]; exact H) | exact H
                              have Ny294 := Aside0.mk hy294
                              clear hy294
                              have H' := Aside0.mk H
                              clear H
                              obtain ⟨Ao22, co22, eo22⟩ := Kd.R_slice HO_6.out
                              subst eo22
                              go_wp2_with (first | ((with_reducible refine gate_builtin (b := .append) (xs := #[.tmp 36, .tmp 37]) rfl ?_); (try (refine gate_guard (by rfl) ?_; dsimp only)); at_builtin; refine Kd.R_append Kd.string (w0 := w) w.heap.size rfl (.tmp 36) (.tmp 37) 22 9 (.string ⟨#[]⟩) 16 rfl Try.underlying22 info9 rfl (by decide) (by omega) (.slice Ao22 x6_1.length co22) x6_1 (⟨#[]⟩ : ByteArray) [.string (⟨#[]⟩ : ByteArray)] (fun _ => True) (fun _ => False) rfl rfl ?aP (fun _ hk => hk.elim) ?aF ?aO ?aB ?aS ?aL ?_; (case aP => exact rfl); (case aB => exact (by repeat (first | (with_reducible first | exact HB.out | apply below_alloc | apply pw_below_drewN | apply below_drew1) | exact HB.out))); (case aF => exact (fun _ _ => trivial)); (case aO => exact (by (with_reducible repeat (first | apply Kd.R_alloc | apply Kd.R_drewN | apply Kd.R_drew)); exact HO_6.out)); (case aS => exact (below_size (by repeat (first | (with_reducible first | exact HB.out | apply below_alloc | apply pw_below_drewN | apply below_drew1) | exact HB.out)))); (case aL => have := LMc16.out; omega); intro v291 w23 ho hb hg hat; rw [← Ny290.out] at ho; have n0_ := Aside0.mk (hb); have n1_ := Aside0.mk (ho); clear HB; clear HO_6; have HB := n0_; have HO292 := n1_; clear n0_ n1_; clear ho hb hg hat; have p293 : 0 ≤ (x7_1 : Int) := of_decide_eq_true (by first | (with_reducible assumption) | assumption); have q293 : x7_1 < (l1.length : Int) := of_decide_eq_true (by first | (with_reducible assumption) | assumption); obtain ⟨ad293, e293, hx293_0, hx293_1⟩ := at_T36 HR1.out x7_1 p293 q293; obtain rfl : ad286 = ad293 := (by injection e293); replace hx293_0 := (HB.out.cell (World.block_lt_of_cell? w _ hx293_0)).trans hx293_0; replace hx293_1 := (HB.out.cell (World.block_lt_of_cell? w _ hx293_1)).trans hx293_1; replace p293 := eq_true p293; replace q293 := eq_true q293; have p21 : 0 ≤ (((rd_T36 l1 x7_1).f0) : Int) := of_decide_eq_true (by first | (with_reducible assumption) | assumption); have q21 : (((rd_T36 l1 x7_1).f0) : Int) < ((y290.length : Int) : Int) := of_decide_eq_true (by first | (with_reducible assumption) | assumption); obtain ⟨go21, co21, eo21, gb21, gl21, cl21, HG21⟩ := Kd.R_form HO292.out (by omega); (first | cases eo21 | (injection eo21 with ea_ en_ ec_; (first | subst ea_ | (injection ea_ with ea_; subst ea_)); subst ec_; clear en_)); have GB21 := Aside0.mk gb21; have GG21 := Aside0.mk HG21; clear gb21 gl21 HG21; obtain ⟨hx21_0, hf21_0⟩ := Kd.R_celln (⟨#[]⟩ : ByteArray) HO292.out (((rd_T36 l1 x7_1).f0) : Int) p21 q21; replace p21 := eq_true p21; replace q21 := eq_true q21; obtain ⟨hy24_, hz24_⟩ := Kd.R_celln (⟨#[]⟩ : ByteArray) HO292.out (((rd_T36 l1 x7_1).f0) : Int) (of_decide_eq_true (by first | (with_reducible assumption) | assumption)) (of_decide_eq_true (by first | (with_reducible assumption) | assumption)); have HP24 := Kd.R_putg HO292.out (((rd_T36 l1 x7_1).f0) : Int) ((rd_T36 l1 x7_1).f1)) | ((with_reducible refine gate_store (t := 9) (p := 46) rfl ?_); refine store_event (t := 9) (p := 46) (v := ?vo_w25) (w1 := (w23.setCell ⟨go21, (((rd_T36 l1 x7_1).f0) : Int).toNat, none⟩ (.string ((rd_T36 l1 x7_1).f1)))) ?hg ?ho ?hn ?hr ?_; (case ho => rfl); (case hg => rfl); (case hn => rfl); (case hr => first | (go_simp; done) | (go_simp; rfl)); intro w25 hw; have hg : w23.grownBy w25 (some go21) := (by rw [hw]; exact HP24.2); have hp_ : Kd.R Kd.string 9 w25 w.heap.size (fun _ => True) (.slice (some ⟨go21, 0, none⟩) y290.length co21) y294 := (by rw [hw, Ny294.out]; exact HP24.1); clear HP24; have n0_ := Aside0.mk (hp_); have n1_ := Aside0.mk ((by rw [hw]; exact below_set (HB.out) GB21.out : Below w.heap.size w w25)); clear HO292; clear HB; have HO292 := n0_; have HB := n1_; clear n0_ n1_; clear hg hw hp_))
                              go_roundg kj8
                              case measure => have := HK1.out; have := HJ8.out; omega
                              case rel => exact ⟨(y294), (wrap64 (x7_1 + 1)), (by first | rfl | (simp; done) | (simp [*]; done)), H', ⟨by have := HK1.out; have := HJ8.out; omega⟩, ⟨by (with_reducible repeat (first | apply Kd.R_alloc | apply Kd.R_drewN | apply Kd.R_drew)); exact HO292.out⟩, ⟨by repeat (first | (with_reducible first | exact HB.out | apply below_alloc | apply pw_below_drewN | apply below_drew1) | exact HB.out)⟩⟩
                            · rw [if_neg c20] at H
                              exact absurd H (by simp)
                          · rw [if_neg c19] at H
                            exact absurd H (by simp)
                        · rw [if_neg c18] at H
                          exact absurd H (by simp)
                      · rw [if_neg c17] at H
                        exact absurd H (by simp)
                    · rw [if_neg c16] at H
                      exact absurd H (by simp)
                  · rw [if_neg c15] at H
                    have c15b0 : (((rd_T36 l1 x7_1).f0) == (x6_1.length : Int)) = false := beq_eq_false_iff_ne.mpr c15
                    have c15b1 : (((rd_T36 l1 x7_1).f0) != (x6_1.length : Int)) = true := bne_iff_ne.mpr c15
                    by_cases c26 : 0 ≤ x7_1
                    · rw [if_pos c26] at H
                      have c26b0 : decide (0 ≤ x7_1) = true := decide_eq_true c26
                      clear c26
                      by_cases c27 : x7_1 < (l1.length : Int)
                      · rw [if_pos c27] at H
                        have c27b0 : decide (x7_1 < (l1.length : Int)) = true := decide_eq_true c27
                        clear c27
                        by_cases c28 : 0 ≤ ((rd_T36 l1 x7_1).f0)
                        · rw [if_pos c28] at H
                          have c28b0 : decide (0 ≤ ((rd_T36 l1 x7_1).f0)) = true := decide_eq_true c28
                          clear c28
                          by_cases c29 : ((rd_T36 l1 x7_1).f0) < (x6_1.length : Int)
                          · rw [if_pos c29] at H
                            have c29b0 : decide (((rd_T36 l1 x7_1).f0) < (x6_1.length : Int)) = true := decide_eq_true c29
                            clear c29
                            obtain ⟨y296, hy296⟩ : ∃ y_ : List ByteArray, y_ = (x6_1.set (((rd_T36 l1 x7_1).f0) : Int).toNat ((rd_T36 l1 x7_1).f1)) := ⟨_, rfl⟩
                            replace H : (hibernacleref35_done.l0 kj8 l1 y296 (wrap64 (x7_1 + 1))) = some (r1, r2) := by first | (rw [hy296]; with_reducible exact H) | (have H2_ := (Option.bind_some _ _).symm.trans H; rw [hy296]; with_reducible exact H2_) | (have H2_ := (Option.bind_some _ _).symm.trans H; with_reducible exact H2_) | with_reducible exact H | (rw [hy296]; exact H) | exact H
                            have Ny296 := Aside0.mk hy296
                            clear hy296
                            have H' := Aside0.mk H
                            clear H
                            obtain ⟨Ao31, co31, eo31⟩ := Kd.R_slice HO_6.out
                            subst eo31
                            have p295 : 0 ≤ (x7_1 : Int) := of_decide_eq_true (by first | (with_reducible assumption) | assumption)
                            have q295 : x7_1 < (l1.length : Int) := of_decide_eq_true (by first | (with_reducible assumption) | assumption)
                            obtain ⟨ad295, e295, hx295_0, hx295_1⟩ := at_T36 HR1.out x7_1 p295 q295
                            obtain rfl : ad286 = ad295 := (by injection e295)
                            replace hx295_0 := (HB.out.cell (World.block_lt_of_cell? w _ hx295_0)).trans hx295_0
                            replace hx295_1 := (HB.out.cell (World.block_lt_of_cell? w _ hx295_1)).trans hx295_1
                            replace p295 := eq_true p295
                            replace q295 := eq_true q295
                            have p30 : 0 ≤ (((rd_T36 l1 x7_1).f0) : Int) := of_decide_eq_true (by first | (with_reducible assumption) | assumption)
                            have q30 : (((rd_T36 l1 x7_1).f0) : Int) < ((x6_1.length : Int) : Int) := of_decide_eq_true (by first | (with_reducible assumption) | assumption)
                            obtain ⟨go30, co30, eo30, gb30, gl30, cl30, HG30⟩ := Kd.R_form HO_6.out (by omega)
                            (first | cases eo30 | (injection eo30 with ea_ en_ ec_; (first | subst ea_ | (injection ea_ with ea_; subst ea_)); subst ec_; clear en_))
                            have GB30 := Aside0.mk gb30
                            have GG30 := Aside0.mk HG30
                            clear gb30 gl30 HG30
                            obtain ⟨hx30_0, hf30_0⟩ := Kd.R_celln (⟨#[]⟩ : ByteArray) HO_6.out (((rd_T36 l1 x7_1).f0) : Int) p30 q30
                            replace p30 := eq_true p30
                            replace q30 := eq_true q30
                            have HP32 := Kd.R_putg HO_6.out (((rd_T36 l1 x7_1).f0) : Int) ((rd_T36 l1 x7_1).f1)
                            go_wp2_with (first | ((with_reducible refine gate_store (t := 9) (p := 46) rfl ?_); refine store_event (t := 9) (p := 46) (v := ?vo_w33) (w1 := (wc.setCell ⟨go30, (((rd_T36 l1 x7_1).f0) : Int).toNat, none⟩ (.string ((rd_T36 l1 x7_1).f1)))) ?hg ?ho ?hn ?hr ?_; (case ho => rfl); (case hg => rfl); (case hn => rfl); (case hr => first | (go_simp; done) | (go_simp; rfl)); intro w33 hw; have hg : wc.grownBy w33 (some go30) := (by rw [hw]; exact HP32.2); have hp_ : Kd.R Kd.string 9 w33 w.heap.size (fun _ => True) (.slice (some ⟨go30, 0, none⟩) x6_1.length co31) y296 := (by rw [hw, Ny296.out]; exact HP32.1); clear HP32; have n0_ := Aside0.mk (hp_); have n1_ := Aside0.mk ((by rw [hw]; exact below_set (HB.out) GB30.out : Below w.heap.size w w33)); clear HO_6; clear HB; have HO_6 := n0_; have HB := n1_; clear n0_ n1_; clear hg hw hp_))
                            go_roundg kj8
                            case measure => have := HK1.out; have := HJ8.out; omega
                            case rel => exact ⟨(y296), (wrap64 (x7_1 + 1)), (by first | rfl | (simp; done) | (simp [*]; done)), H', ⟨by have := HK1.out; have := HJ8.out; omega⟩, ⟨by (with_reducible repeat (first | apply Kd.R_alloc | apply Kd.R_drewN | apply Kd.R_drew)); exact HO_6.out⟩, ⟨by repeat (first | (with_reducible first | exact HB.out | apply below_alloc | apply pw_below_drewN | apply below_drew1) | exact HB.out)⟩⟩
                          · rw [if_neg c29] at H
                            exact absurd H (by simp)
                        · rw [if_neg c28] at H
                          exact absurd H (by simp)
                      · rw [if_neg c27] at H
                        exact absurd H (by simp)
                    · rw [if_neg c26] at H
                      exact absurd H (by simp)
          · rw [if_neg c8] at H
            exact absurd H (by simp)
        · rw [if_neg c7] at H
          have c7b0 : decide (x7_1 < (l1.length : Int)) = false := decide_eq_false c7
          clear c7
          simp only [Option.some.injEq, Prod.mk.injEq] at H
          obtain ⟨rfl, rfl⟩ := H
          go_wp2
          go_ret2
          exact ⟨_, by first | rfl | (simp [errW_none, errW_some] <;> rfl) | (simp [*, errW_none, errW_some] <;> rfl), by (with_reducible repeat (first | apply Kd.R_alloc | apply Kd.R_drewN | apply Kd.R_drew)); exact HO_6.out, by repeat (first | (with_reducible first | exact HB.out | apply below_alloc | apply pw_below_drewN | apply below_drew1) | exact HB.out)⟩
  · rw [if_neg c3] at H
    exact absurd H (by simp)

end Go.Proofs.Ytoljjgabgdifbaa.H

