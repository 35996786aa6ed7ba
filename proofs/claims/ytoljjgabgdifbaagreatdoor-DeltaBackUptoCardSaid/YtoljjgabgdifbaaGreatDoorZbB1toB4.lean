/- Parts of the proof: B1, B2, B3, B4. -/
import Derived.Test.YtoljjgabgdifbaaGreatDoorZbPH10toH11
import Derived.Test.YtoljjgabgdifbaaGreatDoorZbShelf
import Derived.Test.YtoljjgabgdifbaaGreatDoorZbPH6toH9

namespace Go.Proofs.YtoljjgabgdifbaaGreatDoor.H
open Go.RowKit Go.Proofs.YtoljjgabgdifbaaGreatDoorW.PrintWords Go.Proofs.YtoljjgabgdifbaaGreatDoorW.PrintLast Go.Proofs.YtoljjgabgdifbaaGreatDoorW.PrintMore
attribute [local go_sem] max2_int min2_int max_two min_two max_three min_three max_four min_four
set_option linter.unusedVariables false
set_option linter.unusedSimpArgs false
theorem info9c : (Tryz.prog.info? 9).map (fun i => (i.zero, i.size, i.bytes)) = some (some (.string ⟨#[]⟩), 1, 16) := by kernel_rfl
/-! ### num_read: function 39 -/
mutual
def num_read.l0 : Nat → ByteArray → Int → Int → Int → Option (Int × Int × Int)
  | 0, _, _, _, _ => none
  | k + 1, x0, x2, x8, x9 => if x9 < x8 then (if 0 ≤ x9 then (if x9 < (x0.size : Int) then (if x9 = 3 then (num_read.j1 k x0 x2 x9 (wrap64 (bt x0 x9)) x8 x9 (decide ((wrap64 (bt x0 x9)) ≥ 128))) else (num_read.j1 k x0 x2 x9 (wrap64 (bt x0 x9)) x8 x9 false)) else (none)) else (none)) else (some (0, 0, 4))
def num_read.j1 : Nat → ByteArray → Int → Int → Int → Int → Int → Bool → Option (Int × Int × Int)
  | 0, _, _, _, _, _, _, _ => none
  | k + 1, x0, x2, x5, x6, x8, x9, x16 => if x16 = true then (num_read.j2 k x0 x2 x5 x6 x8 x9 x16) else (if x5 > 0 then (num_read.j2 k x0 x2 x5 x6 x8 x9 (x6 == 0)) else (num_read.j2 k x0 x2 x5 x6 x8 x9 false))
def num_read.j2 : Nat → ByteArray → Int → Int → Int → Int → Int → Bool → Option (Int × Int × Int)
  | 0, _, _, _, _, _, _, _ => none
  | k + 1, x0, x2, x5, x6, x8, x9, x16 => if x16 = true then (some (0, 0, 3)) else (if 0 ≤ (wrap64 (7 * x5)) then (if x6 < 128 then (some (wrap64 (x2 + (shl .i64 (Int.tmod x6 128) (wrap64 (7 * x5)))), wrap64 (x5 + 1), 0)) else (num_read.l0 k x0 (wrap64 (x2 + (shl .i64 (Int.tmod x6 128) (wrap64 (7 * x5))))) x8 (wrap64 (x9 + 1)))) else (none))
end
def num_read.f (k : Nat) (a0 : ByteArray) : Option (Int × Int × Int) := num_read.l0 k a0 0 (a0.size : Int) 0
set_option maxHeartbeats 8000000 in
set_option maxRecDepth 100000 in
theorem num_read.calls (k : Nat) (a0 : ByteArray) (r1 : Int) (r2 : Int) (r3 : Int) (w : World) (h : num_read.f k a0 = some (r1, r2, r3)) :
    Calls Tryz.prog 39 #[.string a0] w fun e w' => e = .returned (.tuple #[.int .i64 r1, .int .i64 r2, .int .i64 r3]) ∧ Drawn0 w w' := by
  have H : (num_read.l0 k a0 0 (a0.size : Int) 0) = some (r1, r2, r3) := h
  clear h
  have H' := Aside0.mk H
  clear H
  go_enter Tryz.func39, Tryz.ntmps39
  go_wp2
  go_loopg [2, 9] k (fun kq v2 v9 w' => ∃ (x2_1 : Int) (x9_1 : Int), v2 = .int .i64 x2_1 ∧ v9 = .int .i64 x9_1 ∧ Aside0 (num_read.l0 kq a0 x2_1 (a0.size : Int) x9_1 = some (r1, r2, r3)) ∧ Aside0 (kq ≤ k) ∧ Drawn0 w w')
  case atStart => exact ⟨(0), (0), (by first | rfl | (simp; done) | (simp [*]; done)), (by first | rfl | (simp; done) | (simp [*]; done)), H', ⟨Nat.le_refl _⟩, by repeat (first | exact Drawn0.refl _ | apply Drawn0.step)⟩
  case round =>
    clear H'
    obtain ⟨x2_1, x9_1, rfl, rfl, HA, HK1, ⟨m1, rfl⟩⟩ := hrel
    cases gk with
    | zero => exact absurd HA.out (by simp [num_read.l0])
    | succ k1 =>
      have H := HA.out
      clear HA
      simp only [num_read.l0] at H
      by_cases c2 : x9_1 < (a0.size : Int)
      · rw [if_pos c2] at H
        have c2b0 : decide (x9_1 < (a0.size : Int)) = true := decide_eq_true c2
        clear c2
        by_cases c3 : 0 ≤ x9_1
        · rw [if_pos c3] at H
          have c3b0 : decide (0 ≤ x9_1) = true := decide_eq_true c3
          clear c3
          by_cases c4 : x9_1 < (a0.size : Int)
          · rw [if_pos c4] at H
            have c4b0 : decide (x9_1 < (a0.size : Int)) = true := decide_eq_true c4
            clear c4
            have HC6 := Aside0.mk H
            clear H
            have p5 : 0 ≤ (x9_1 : Int) := of_decide_eq_true (by first | (with_reducible assumption) | assumption)
            have q5 : x9_1 < (a0.size : Int) := of_decide_eq_true (by first | (with_reducible assumption) | assumption)
            have hx5 := bt_at a0 x9_1
            replace p5 := eq_true p5
            replace q5 := eq_true q5
            go_upto_region 5 with (fail)
            go_cut [16] (fun v16 wc => ∃ (kq : Nat) (x16_5 : Bool), v16 = .bool x16_5 ∧ Aside0 (num_read.j1 kq a0 x2_1 x9_1 (wrap64 (bt a0 x9_1)) (a0.size : Int) x9_1 x16_5 = some (r1, r2, r3)) ∧ Aside0 (kq ≤ k1) ∧ Drawn0 w wc)
            case first =>
              have H := HC6.out
              clear HC6
              by_cases c7 : x9_1 = 3
              · rw [if_pos c7] at H
                have c7b0 : (x9_1 == 3) = true := beq_iff_eq.mpr c7
                have c7b1 : (x9_1 != 3) = false := bne_eq_false_iff_eq.mpr c7
                clear c7
                (first | rw [c7b0] | (simp only [i64_w, i32_w]; rw [c7b0]) | skip)
                have H' := Aside0.mk H
                clear H
                go_wp2
                go_meet
                case rel => exact ⟨_, (decide ((wrap64 (bt a0 x9_1)) ≥ 128)), (by first | rfl | (simp; done) | (simp [*]; done)), H', ⟨by have := HK1.out; first | omega | exact Nat.le_refl _⟩, by repeat (first | exact Drawn0.refl _ | apply Drawn0.step)⟩
              · rw [if_neg c7] at H
                have c7b0 : (x9_1 == 3) = false := beq_eq_false_iff_ne.mpr c7
                have c7b1 : (x9_1 != 3) = true := bne_iff_ne.mpr c7
                (first | rw [c7b0] | (simp only [i64_w, i32_w]; rw [c7b0]) | skip)
                have H' := Aside0.mk H
                clear H
                go_wp2
                go_meet
                case rel => exact ⟨_, (false), (by first | rfl | (simp; done) | (simp [*]; done)), H', ⟨by have := HK1.out; first | omega | exact Nat.le_refl _⟩, by repeat (first | exact Drawn0.refl _ | apply Drawn0.step)⟩
            case rest =>
              clear HC6
              try clear c2
              try clear c2b0
              try clear p2
              try clear c3
              try clear c3b0
              try clear c4
              try clear c4b0
              try clear p5
              try clear q5
              try clear hx5
              try clear p6
              try clear c7
              try clear c7b0
              try clear c7b1
              try clear p5
              try clear q5
              obtain ⟨kq, x16_5, rfl, HA, HJ5, ⟨mc5, rfl⟩⟩ := hcut
              cases kq with
              | zero => exact absurd HA.out (by simp [num_read.j1])
              | succ kj5 =>
                have H := HA.out
                clear HA
                simp only [num_read.j1] at H
                have HC8 := Aside0.mk H
                clear H
                go_upto_if 16 with (fail)
                go_cut [16] (fun v16 wc => ∃ (kq : Nat) (x16_7 : Bool), v16 = .bool x16_7 ∧ Aside0 (num_read.j2 kq a0 x2_1 x9_1 (wrap64 (bt a0 x9_1)) (a0.size : Int) x9_1 x16_7 = some (r1, r2, r3)) ∧ Aside0 (kq ≤ kj5) ∧ Drawn0 w wc)
                case first =>
                  have H := HC8.out
                  clear HC8
                  by_cases c9 : x16_5 = true
                  · subst c9
                    have H1 : (num_read.j2 kj5 a0 x2_1 x9_1 (wrap64 (bt a0 x9_1)) (a0.size : Int) x9_1 true) = some (r1, r2, r3) := by rw [if_pos rfl] at H; exact H
                    clear H
                    have H := H1
                    clear H1
                    have H' := Aside0.mk H
                    clear H
                    go_wp2
                    go_meet
                    case rel => exact ⟨_, (true), (by first | rfl | (simp; done) | (simp [*]; done)), H', ⟨by have := HK1.out; have := HJ5.out; first | omega | exact Nat.le_refl _⟩, by repeat (first | exact Drawn0.refl _ | apply Drawn0.step)⟩
                  · replace c9 := Bool.eq_false_iff.mpr c9
                    subst c9
                    have H1 : (if x9_1 > 0 then (num_read.j2 kj5 a0 x2_1 x9_1 (wrap64 (bt a0 x9_1)) (a0.size : Int) x9_1 ((wrap64 (bt a0 x9_1)) == 0)) else (num_read.j2 kj5 a0 x2_1 x9_1 (wrap64 (bt a0 x9_1)) (a0.size : Int) x9_1 false)) = some (r1, r2, r3) := by rw [if_neg (show ¬ (false = true) by decide)] at H; exact H
                    clear H
                    have H := H1
                    clear H1
                    by_cases c10 : x9_1 > 0
                    · rw [if_pos c10] at H
                      have c10b0 : decide (0 < x9_1) = true := decide_eq_true c10
                      clear c10
                      (first | rw [c10b0] | (simp only [i64_w, i32_w]; rw [c10b0]) | skip)
                      have H' := Aside0.mk H
                      clear H
                      go_wp2
                      go_meet
                      case rel => exact ⟨_, (((wrap64 (bt a0 x9_1)) == 0)), (by first | rfl | (simp; done) | (simp [*]; done)), H', ⟨by have := HK1.out; have := HJ5.out; first | omega | exact Nat.le_refl _⟩, by repeat (first | exact Drawn0.refl _ | apply Drawn0.step)⟩
                    · rw [if_neg c10] at H
                      have c10b0 : decide (0 < x9_1) = false := decide_eq_false c10
                      clear c10
                      (first | rw [c10b0] | (simp only [i64_w, i32_w]; rw [c10b0]) | skip)
                      have H' := Aside0.mk H
                      clear H
                      go_wp2
                      go_meet
                      case rel => exact ⟨_, (false), (by first | rfl | (simp; done) | (simp [*]; done)), H', ⟨by have := HK1.out; have := HJ5.out; first | omega | exact Nat.le_refl _⟩, by repeat (first | exact Drawn0.refl _ | apply Drawn0.step)⟩
                case rest =>
                  clear HC8
                  try clear c1
                  try clear c2
                  try clear c2b0
                  try clear p2
                  try clear c3
                  try clear c3b0
                  try clear c4
                  try clear c4b0
                  try clear c5
                  try clear p5
                  try clear q5
                  try clear hx5
                  try clear p6
                  try clear c7
                  try clear c7b0
                  try clear c7b1
                  try clear c9
                  try clear c10
                  try clear c10b0
                  try clear p2
                  try clear p5
                  try clear p6
                  try clear q5
                  obtain ⟨kq, x16_7, rfl, HA, HJ7, ⟨mc7, rfl⟩⟩ := hcut
                  cases kq with
                  | zero => exact absurd HA.out (by simp [num_read.j2])
                  | succ kj7 =>
                    have H := HA.out
                    clear HA
                    simp only [num_read.j2] at H
                    by_cases c11 : x16_7 = true
                    · subst c11
                      have H1 : (some (0, 0, 3)) = some (r1, r2, r3) := by rw [if_pos rfl] at H; exact H
                      clear H
                      have H := H1
                      clear H1
                      simp only [Option.some.injEq, Prod.mk.injEq] at H
                      obtain ⟨rfl, rfl, rfl⟩ := H
                      go_wp2
                      go_ret3
                      exact ⟨by first | rfl | (simp; done) | (simp [*]; done), by repeat (first | exact Drawn0.refl _ | apply Drawn0.step)⟩
                    · replace c11 := Bool.eq_false_iff.mpr c11
                      subst c11
                      have H1 : (if 0 ≤ (wrap64 (7 * x9_1)) then (if (wrap64 (bt a0 x9_1)) < 128 then (some (wrap64 (x2_1 + (shl .i64 (Int.tmod (wrap64 (bt a0 x9_1)) 128) (wrap64 (7 * x9_1)))), wrap64 (x9_1 + 1), 0)) else (num_read.l0 kj7 a0 (wrap64 (x2_1 + (shl .i64 (Int.tmod (wrap64 (bt a0 x9_1)) 128) (wrap64 (7 * x9_1))))) (a0.size : Int) (wrap64 (x9_1 + 1)))) else (none)) = some (r1, r2, r3) := by rw [if_neg (show ¬ (false = true) by decide)] at H; exact H
                      clear H
                      have H := H1
                      clear H1
                      obtain ⟨ji12, hji12⟩ : ∃ j_ : Int, (wrap64 (7 * x9_1)) = j_ := ⟨_, rfl⟩
                      replace H : (if 0 ≤ (ji12) then (if (wrap64 (bt a0 x9_1)) < 128 then (some (wrap64 (x2_1 + (shl .i64 (Int.tmod (wrap64 (bt a0 x9_1)) 128) (ji12))), wrap64 (x9_1 + 1), 0)) else (num_read.l0 kj7 a0 (wrap64 (x2_1 + (shl .i64 (Int.tmod (wrap64 (bt a0 x9_1)) 128) (ji12)))) (a0.size : Int) (wrap64 (x9_1 + 1)))) else (none)) = some (r1, r2, r3) := by first | (rw [hji12] at H; exact H) | (simp only [hji12] at H ⊢; exact H)
                      have hji12w : (IntKind.i64.wrap (7 * x9_1)) = ji12 := (i64_w _).trans hji12
                      by_cases c13 : 0 ≤ (ji12)
                      · rw [if_pos c13] at H
                        have c13b0 := eq_true c13
                        have c13b1 : decide (0 ≤ (ji12)) = true := decide_eq_true c13
                        clear c13
                        obtain ⟨ji14, hji14⟩ : ∃ j_ : Int, (shl .i64 (Int.tmod (wrap64 (bt a0 x9_1)) 128) (ji12)) = j_ := ⟨_, rfl⟩
                        replace H : (if (wrap64 (bt a0 x9_1)) < 128 then (some (wrap64 (x2_1 + (ji14)), wrap64 (x9_1 + 1), 0)) else (num_read.l0 kj7 a0 (wrap64 (x2_1 + (ji14))) (a0.size : Int) (wrap64 (x9_1 + 1)))) = some (r1, r2, r3) := by first | (rw [hji14] at H; exact H) | (simp only [hji14] at H ⊢; exact H)
                        have hji14_ : (IntKind.i64.wrap ((Int.tmod (wrap64 (bt a0 x9_1)) 128) * 2 ^ min (ji12).toNat 64)) = ji14 := hji14
                        have hji14z : (ji12) ≤ 64 → (IntKind.i64.wrap ((Int.tmod (wrap64 (bt a0 x9_1)) 128) * 2 ^ (ji12).toNat)) = ji14 := shl_small hji14
                        have hji14y : (wrap64 ((Int.tmod (wrap64 (bt a0 x9_1)) 128) * 2 ^ min (ji12).toNat 64)) = ji14 := (i64_w _).symm.trans hji14_
                        have hji14x : (ji12) ≤ 64 → (wrap64 ((Int.tmod (wrap64 (bt a0 x9_1)) 128) * 2 ^ (ji12).toNat)) = ji14 := fun h_ => (i64_w _).symm.trans (hji14z h_)
                        by_cases c15 : (wrap64 (bt a0 x9_1)) < 128
                        · rw [if_pos c15] at H
                          have c15b0 : decide ((wrap64 (bt a0 x9_1)) < 128) = true := decide_eq_true c15
                          clear c15
                          simp only [Option.some.injEq, Prod.mk.injEq] at H
                          obtain ⟨rfl, rfl, rfl⟩ := H
                          go_wp2
                          go_ret3
                          exact ⟨by first | rfl | (simp; done) | (simp only [← hji12, ← hji14] <;> (first | rfl | simp)) | (simp [*]; done), by repeat (first | exact Drawn0.refl _ | apply Drawn0.step)⟩
                        · rw [if_neg c15] at H
                          have c15b0 : decide ((wrap64 (bt a0 x9_1)) < 128) = false := decide_eq_false c15
                          clear c15
                          have H' := Aside0.mk H
                          clear H
                          go_wp2
                          go_roundg kj7
                          case measure => have := HK1.out; have := HJ5.out; have := HJ7.out; omega
                          case rel => exact ⟨(wrap64 (x2_1 + (ji14))), (wrap64 (x9_1 + 1)), (by first | rfl | (simp; done) | (simp only [← hji14] <;> (first | rfl | simp)) | (simp [*]; done)), (by first | rfl | (simp; done) | (simp [*]; done)), H', ⟨by have := HK1.out; have := HJ5.out; have := HJ7.out; omega⟩, by repeat (first | exact Drawn0.refl _ | apply Drawn0.step)⟩
                      · rw [if_neg c13] at H
                        exact absurd H (by simp)
          · rw [if_neg c4] at H
            exact absurd H (by simp)
        · rw [if_neg c3] at H
          exact absurd H (by simp)
      · rw [if_neg c2] at H
        have c2b0 : decide (x9_1 < (a0.size : Int)) = false := decide_eq_false c2
        clear c2
        simp only [Option.some.injEq, Prod.mk.injEq] at H
        obtain ⟨rfl, rfl, rfl⟩ := H
        go_wp2
        go_ret3
        exact ⟨by first | rfl | (simp; done) | (simp [*]; done), by repeat (first | exact Drawn0.refl _ | apply Drawn0.step)⟩

/-! ### num_Texts: function 22 -/
def num_Texts.l0 : Nat → ByteArray → List ByteArray → Option (List ByteArray × Int)
  | 0, _, _ => none
  | k + 1, x0, x4 => if x0.toList = ([] : List UInt8) then (some (x4, 0)) else ((num_read.f k x0).bind fun bt241 => (if bt241.2.2 = 0 then (if (wrap64 ((x0.size : Int) - bt241.2.1)) < bt241.1 then (some (([] : List ByteArray), 4)) else (if 0 ≤ bt241.2.1 then (if bt241.2.1 ≤ (wrap64 (bt241.2.1 + bt241.1)) then (if (wrap64 (bt241.2.1 + bt241.1)) ≤ (x0.size : Int) then (if x4.length < 8796093022208 then (if 0 ≤ (wrap64 (bt241.2.1 + bt241.1)) then (num_Texts.l0 k (x0.extract ((wrap64 (bt241.2.1 + bt241.1)) : Int).toNat x0.size) (x4 ++ [x0.extract (bt241.2.1 : Int).toNat ((wrap64 (bt241.2.1 + bt241.1)) : Int).toNat])) else (none)) else (none)) else (none)) else (none)) else (none))) else (some (([] : List ByteArray), bt241.2.2))))
def num_Texts.f (k : Nat) (a0 : ByteArray) : Option (List ByteArray × Int) := num_Texts.l0 k a0 ([] : List ByteArray)
set_option maxHeartbeats 8000000 in
set_option maxRecDepth 100000 in
theorem num_Texts.calls (k : Nat) (a0 : ByteArray) (r1 : List ByteArray) (r2 : Int) (w : World) (h : num_Texts.f k a0 = some (r1, r2)) :
    Calls Tryz.prog 22 #[.string a0] w fun e w' => ∃ v0_ : Value, e = .returned (.tuple #[v0_, .int .i64 r2]) ∧ Kd.R Kd.string 9 w' w.heap.size (fun _ => True) v0_ r1 ∧ Below w.heap.size w w' := by
  have HB := Aside0.mk (Below.refl w.heap.size w)
  have H : (num_Texts.l0 k a0 ([] : List ByteArray)) = some (r1, r2) := h
  clear h
  have H' := Aside0.mk H
  clear H
  go_enter Tryz.func22, Tryz.ntmps22
  go_wp2
  go_loopg [0, 4] k (fun kq v0 v4 w' => ∃ (x0_1 : ByteArray) (x4_1 : List ByteArray), v0 = .string x0_1 ∧ Aside0 (num_Texts.l0 kq x0_1 x4_1 = some (r1, r2)) ∧ Aside0 (kq ≤ k) ∧ Aside0 (Kd.R Kd.string 9 w' w.heap.size (fun _ => True) v4 x4_1) ∧ Aside0 (Below w.heap.size w w'))
  case atStart => exact ⟨(a0), (([] : List ByteArray)), (by first | rfl | (simp; done) | (simp [*]; done)), H', ⟨Nat.le_refl _⟩, ⟨by first | exact Kd.R_nil _ _ _ _ _ | exact Kd.N_nil _ _ _ _ _ | exact Kd.V_nil _ _ _ _ _ | exact Kd.Q_nil _ _ _ _ _ | exact Kd.S_nil _ _ _ _ _⟩, ⟨by repeat (first | (with_reducible first | exact HB.out | apply below_alloc | apply pw_below_drewN | apply below_drew1) | exact HB.out)⟩⟩
  case round =>
    clear H'
    obtain ⟨x0_1, x4_1, rfl, HA, HK1, HO_4, HB⟩ := hrel
    cases gk with
    | zero => exact absurd HA.out (by simp [num_Texts.l0])
    | succ k1 =>
      have H := HA.out
      clear HA
      simp only [num_Texts.l0] at H
      by_cases c2 : x0_1.toList = ([] : List UInt8)
      · rw [if_pos c2] at H
        have c2b0 : (x0_1.toList == ([] : List UInt8)) = true := beq_iff_eq.mpr c2
        have c2b1 : (x0_1.toList != ([] : List UInt8)) = false := bne_eq_false_iff_eq.mpr c2
        clear c2
        simp only [Option.some.injEq, Prod.mk.injEq] at H
        obtain ⟨rfl, rfl⟩ := H
        go_wp2
        go_ret2
        exact ⟨_, by first | rfl | (simp [errW_none, errW_some] <;> rfl) | (simp [*, errW_none, errW_some] <;> rfl), by (with_reducible repeat (first | apply Kd.R_alloc | apply Kd.R_drewN | apply Kd.R_drew)); exact HO_4.out, by repeat (first | (with_reducible first | exact HB.out | apply below_alloc | apply pw_below_drewN | apply below_drew1) | exact HB.out)⟩
      · rw [if_neg c2] at H
        have c2b0 : (x0_1.toList == ([] : List UInt8)) = false := beq_eq_false_iff_ne.mpr c2
        have c2b1 : (x0_1.toList != ([] : List UInt8)) = true := bne_iff_ne.mpr c2
        replace H := Option.bind_eq_some_iff.mp H
        obtain ⟨⟨t241, t242, t243⟩, A30, H⟩ := H
        replace H : (if t243 = 0 then (if (wrap64 ((x0_1.size : Int) - t242)) < t241 then (some (([] : List ByteArray), 4)) else (if 0 ≤ t242 then (if t242 ≤ (wrap64 (t242 + t241)) then (if (wrap64 (t242 + t241)) ≤ (x0_1.size : Int) then (if x4_1.length < 8796093022208 then (if 0 ≤ (wrap64 (t242 + t241)) then (num_Texts.l0 k1 (x0_1.extract ((wrap64 (t242 + t241)) : Int).toNat x0_1.size) (x4_1 ++ [x0_1.extract (t242 : Int).toNat ((wrap64 (t242 + t241)) : Int).toNat])) else (none)) else (none)) else (none)) else (none)) else (none))) else (some (([] : List ByteArray), t243))) = some (r1, r2) := H
        have A3 := Aside0.mk A30
        clear A30
        by_cases c4 : t243 = 0
        · rw [if_pos c4] at H
          have c4b0 : (t243 == 0) = true := beq_iff_eq.mpr c4
          have c4b1 : (t243 != 0) = false := bne_eq_false_iff_eq.mpr c4
          clear c4
          by_cases c5 : (wrap64 ((x0_1.size : Int) - t242)) < t241
          · rw [if_pos c5] at H
            have c5b0 : decide ((wrap64 ((x0_1.size : Int) - t242)) < t241) = true := decide_eq_true c5
            clear c5
            simp only [Option.some.injEq, Prod.mk.injEq] at H
            obtain ⟨rfl, rfl⟩ := H
            go_wp2_with (first | ((with_reducible refine gate_callee (f := 39) rfl ?_); refine goesL_ (some 12) rfl rfl Tryz.func39 (by kernel_rfl) rfl #[.string x0_1] rfl (by (try simp only [List.map_toArray, List.map_cons, List.map_nil]); first | done | rfl | (simp only [List.length_drop, List.length_take]; rfl)) ?_; (with_reducible refine (num_read.calls k1 x0_1 t241 t242 t243 _ A3.out).mono ?_); rintro e w' ⟨rfl, ⟨nd, rfl⟩⟩; refine ⟨_, rfl, ?_⟩))
            go_ret2
            exact ⟨_, by first | rfl | (simp [errW_none, errW_some] <;> rfl) | (simp [*, errW_none, errW_some] <;> rfl), by first | exact Kd.R_nil _ _ _ _ _ | exact Kd.N_nil _ _ _ _ _ | exact Kd.V_nil _ _ _ _ _ | exact Kd.Q_nil _ _ _ _ _ | exact Kd.S_nil _ _ _ _ _, by repeat (first | (with_reducible first | exact HB.out | apply below_alloc | apply pw_below_drewN | apply below_drew1) | exact HB.out)⟩
          · rw [if_neg c5] at H
            have c5b0 : decide ((wrap64 ((x0_1.size : Int) - t242)) < t241) = false := decide_eq_false c5
            clear c5
            by_cases c6 : 0 ≤ t242
            · rw [if_pos c6] at H
              have c6b0 := eq_true c6
              have c6b1 : decide (0 ≤ t242) = true := decide_eq_true c6
              clear c6
              by_cases c7 : t242 ≤ (wrap64 (t242 + t241))
              · rw [if_pos c7] at H
                have c7b0 := eq_true c7
                have c7b1 : decide (t242 ≤ (wrap64 (t242 + t241))) = true := decide_eq_true c7
                by_cases c8 : (wrap64 (t242 + t241)) ≤ (x0_1.size : Int)
                · rw [if_pos c8] at H
                  have c8b0 := eq_true c8
                  have c8b1 : decide ((wrap64 (t242 + t241)) ≤ (x0_1.size : Int)) = true := decide_eq_true c8
                  by_cases c9 : x4_1.length < 8796093022208
                  · rw [if_pos c9] at H
                    have LMc9 := Aside0.mk c9
                    clear c9
                    obtain ⟨y244, hy244⟩ : ∃ y_ : List ByteArray, y_ = (x4_1 ++ [x0_1.extract (t242 : Int).toNat ((wrap64 (t242 + t241)) : Int).toNat]) := ⟨_, rfl⟩
                    replace H : (if 0 ≤ (wrap64 (t242 + t241)) then (num_Texts.l0 k1 (x0_1.extract ((wrap64 (t242 + t241)) : Int).toNat x0_1.size) y244) else (none)) = some (r1, r2) := by first | (rw [hy244]; with_reducible exact H) | (have H2_ := (Option.bind_some _ _).symm.trans H; rw [hy244]; with_reducible exact H2_) | (have H2_ := (Option.bind_some _ _).symm.trans H; with_reducible exact H2_) | with_reducible exact H | (rw [hy244]; exact H) | exact H
                    have Ny244 := Aside0.mk hy244
                    clear hy244
                    obtain ⟨ji10, hji10⟩ : ∃ j_ : Int, (wrap64 (t242 + t241)) = j_ := ⟨_, rfl⟩
                    replace H : (if 0 ≤ (ji10) then (num_Texts.l0 k1 (x0_1.extract ((ji10) : Int).toNat x0_1.size) y244) else (none)) = some (r1, r2) := by first | (rw [hji10] at H; exact H) | (simp only [hji10] at H ⊢; exact H)
                    (try rw [hji10] at c7b0)
                    (try rw [hji10] at c7b1)
                    (try rw [hji10] at c7)
                    (try rw [hji10] at c8b0)
                    (try rw [hji10] at c8b1)
                    (try rw [hji10] at c8)
                    (try rw [hji10] at A3)
                    (try rw [hji10] at Ny244)
                    have hji10w : (IntKind.i64.wrap (t242 + t241)) = ji10 := (i64_w _).trans hji10
                    by_cases c11 : 0 ≤ (ji10)
                    · rw [if_pos c11] at H
                      have c11b0 := eq_true c11
                      have c11b1 : decide (0 ≤ (ji10)) = true := decide_eq_true c11
                      clear c11
                      have c12b0 := eq_true (of_decide_eq_true (by first | (with_reducible assumption) | assumption) : (ji10) ≤ (x0_1.size : Int))
                      have H' := Aside0.mk H
                      clear H
                      go_wp2_with (first | ((with_reducible refine gate_callee (f := 39) rfl ?_); refine goesL_ (some 12) rfl rfl Tryz.func39 (by kernel_rfl) rfl #[.string x0_1] rfl (by (try simp only [List.map_toArray, List.map_cons, List.map_nil]); first | done | rfl | (simp only [List.length_drop, List.length_take]; rfl)) ?_; (with_reducible refine (num_read.calls k1 x0_1 t241 t242 t243 _ A3.out).mono ?_); rintro e w' ⟨rfl, ⟨nd, rfl⟩⟩; refine ⟨_, rfl, ?_⟩) | ((with_reducible refine gate_builtin (b := .append) (xs := #[.tmp 27, .tmp 34]) rfl ?_); at_builtin; refine Kd.R_append Kd.string (w0 := w) w.heap.size rfl (.tmp 27) (.tmp 34) 22 9 (.string ⟨#[]⟩) 16 rfl Tryz.underlying22 info9c rfl (by decide) (by omega) u4 x4_1 (x0_1.extract (t242 : Int).toNat ((ji10) : Int).toNat) [.string (x0_1.extract (t242 : Int).toNat ((ji10) : Int).toNat)] (fun _ => True) (fun _ => False) rfl rfl ?aP (fun _ hk => hk.elim) ?aF ?aO ?aB ?aS ?aL ?_; (case aP => exact rfl); (case aB => exact (by repeat (first | (with_reducible first | exact HB.out | apply below_alloc | apply pw_below_drewN | apply below_drew1) | exact HB.out))); (case aF => exact (fun _ _ => trivial)); (case aO => exact (by (with_reducible repeat (first | apply Kd.R_alloc | apply Kd.R_drewN | apply Kd.R_drew)); exact HO_4.out)); (case aS => exact (below_size (by repeat (first | (with_reducible first | exact HB.out | apply below_alloc | apply pw_below_drewN | apply below_drew1) | exact HB.out)))); (case aL => have := LMc9.out; omega); intro v245 w13 ho hb hg hat; rw [← Ny244.out] at ho; have n0_ := Aside0.mk (hb); have n1_ := Aside0.mk (ho); clear HB; clear HO_4; have HB := n0_; have HO246 := n1_; clear n0_ n1_; clear ho hb hg hat))
                      go_roundg k1
                      case measure => have := HK1.out; omega
                      case rel => exact ⟨(x0_1.extract ((ji10) : Int).toNat x0_1.size), (y244), (by first | rfl | (simp; done) | (simp only [← hji10] <;> (first | rfl | simp)) | (simp [*]; done)), H', ⟨by have := HK1.out; omega⟩, ⟨by (with_reducible repeat (first | apply Kd.R_alloc | apply Kd.R_drewN | apply Kd.R_drew)); exact HO246.out⟩, ⟨by repeat (first | (with_reducible first | exact HB.out | apply below_alloc | apply pw_below_drewN | apply below_drew1) | exact HB.out)⟩⟩
                    · rw [if_neg c11] at H
                      exact absurd H (by simp)
                  · rw [if_neg c9] at H
                    exact absurd H (by simp)
                · rw [if_neg c8] at H
                  exact absurd H (by simp)
              · rw [if_neg c7] at H
                exact absurd H (by simp)
            · rw [if_neg c6] at H
              exact absurd H (by simp)
        · rw [if_neg c4] at H
          have c4b0 : (t243 == 0) = false := beq_eq_false_iff_ne.mpr c4
          have c4b1 : (t243 != 0) = true := bne_iff_ne.mpr c4
          simp only [Option.some.injEq, Prod.mk.injEq] at H
          obtain ⟨rfl, rfl⟩ := H
          go_wp2_with (first | ((with_reducible refine gate_callee (f := 39) rfl ?_); refine goesL_ (some 12) rfl rfl Tryz.func39 (by kernel_rfl) rfl #[.string x0_1] rfl (by (try simp only [List.map_toArray, List.map_cons, List.map_nil]); first | done | rfl | (simp only [List.length_drop, List.length_take]; rfl)) ?_; (with_reducible refine (num_read.calls k1 x0_1 t241 t242 t243 _ A3.out).mono ?_); rintro e w' ⟨rfl, ⟨nd, rfl⟩⟩; refine ⟨_, rfl, ?_⟩))
          go_ret2
          exact ⟨_, by first | rfl | (simp [errW_none, errW_some] <;> rfl) | (simp [*, errW_none, errW_some] <;> rfl), by first | exact Kd.R_nil _ _ _ _ _ | exact Kd.N_nil _ _ _ _ _ | exact Kd.V_nil _ _ _ _ _ | exact Kd.Q_nil _ _ _ _ _ | exact Kd.S_nil _ _ _ _ _, by repeat (first | (with_reducible first | exact HB.out | apply below_alloc | apply pw_below_drewN | apply below_drew1) | exact HB.out)⟩

/-! ### delta_below: function 18 -/
def delta_below.f (a0_0 : Int) (a0_1 : ByteArray) : Option (Bool) := some (decide (a0_0 < 0))
set_option maxHeartbeats 8000000 in
set_option maxRecDepth 100000 in
theorem delta_below.calls (a0_0 : Int) (a0_1 : ByteArray) (r : Bool) (w : World) (h : delta_below.f a0_0 a0_1 = some r) :
    Calls Tryz.prog 18 #[.agg #[.int .i64 a0_0, .string a0_1]] w fun e w' => e = .returned (.bool r) ∧ Below w.heap.size w w' := by
  have hu46 := Tryz.underlying46
  have HB := Aside0.mk (Below.refl w.heap.size w)
  have H : (some (decide (a0_0 < 0))) = some r := h
  clear h
  obtain rfl := Option.some.inj H
  go_enter Tryz.func18, Tryz.ntmps18
  go_wp2_with (first | ((with_reducible refine gate_dst (N := 1) rfl ?_); refine box_event ?hg (N := 1) ?hd (cs := #[.int .i64 a0_0, .string a0_1]) (t := 46) ?hr ?_; (case hd => rfl); (case hg => rfl); (case hr => first | (go_simp; done) | (go_simp; rfl)); intro gb218 hg w2 hbox hb; have n0_ := Aside0.mk (below_step (by repeat (first | (with_reducible first | exact HB.out | apply below_alloc | apply pw_below_drewN | apply below_drew1) | exact HB.out)) hb); have n1_ := Aside0.mk (hbox); have n2_ := Aside0.mk ((by rw [hg]; exact (below_size (by repeat (first | (with_reducible first | exact HB.out | apply below_alloc | apply pw_below_drewN | apply below_drew1) | exact HB.out))) : w.heap.size ≤ gb218)); have n3_ := Aside0.mk ((by rw [hg]; exact (below_size (by repeat (first | (with_reducible first | exact HB.out | apply below_alloc | apply pw_below_drewN | apply below_drew1) | exact HB.out))) : w.heap.size ≤ gb218)); clear HB; have HB := n0_; have BK218 := n1_; have GW218 := n2_; have GE218 := n3_; clear n0_ n1_ n2_ n3_; clear hb hbox hg; have hcz3_0 : w2.cell? ⟨gb218, 0, none⟩ = some (.int .i64 a0_0) := (blk_cell BK218.out 0).trans rfl; have hcz3_1 : w2.cell? ⟨gb218, 1, none⟩ = some (.string a0_1) := (blk_cell BK218.out 1).trans rfl; have hfz3_0 := blk_frozen BK218.out 0; have hfz3_1 := blk_frozen BK218.out 1))
  go_ret
  exact ⟨by first | rfl | (simp [errW_none, errW_some] <;> rfl) | (simp [*, errW_none, errW_some] <;> rfl), by repeat (first | (with_reducible first | exact HB.out | apply below_alloc | apply pw_below_drewN | apply below_drew1 | refine below_set ?_ GE218.out) | exact HB.out)⟩

end Go.Proofs.YtoljjgabgdifbaaGreatDoor.H


namespace Go.Proofs.YtoljjgabgdifbaaGreatDoor.H
open Go.RowKit Go.Proofs.YtoljjgabgdifbaaGreatDoorW.PrintWords Go.Proofs.YtoljjgabgdifbaaGreatDoorW.PrintLast Go.Proofs.YtoljjgabgdifbaaGreatDoorW.PrintMore
attribute [local go_sem] max2_int min2_int max_two min_two max_three min_three max_four min_four
set_option linter.unusedVariables false
set_option linter.unusedSimpArgs false

/-- Has a write of these a number below 0? -/
def hasNeg (l : List S46) : Bool := l.any fun x => decide (x.f0 < 0)
theorem rd46_at (l : List S46) (i : Nat) (h : i < l.length) : rd_T46 l (i : Int) = l[i] := by
  unfold rd_T46
  rw [Int.toNat_natCast, List.getD_eq_getElem?_getD, List.getElem?_eq_getElem h]
  rfl
theorem hasNeg_step (l : List S46) (i : Nat) (h : i < l.length) : hasNeg (l.take (i + 1)) = (hasNeg (l.take i) || decide (l[i].f0 < 0)) := by
  unfold hasNeg
  rw [List.take_add_one, List.getElem?_eq_getElem h, List.any_append]
  simp
theorem hasNeg_of (l : List S46) (i : Nat) (h : i < l.length) (hn : l[i].f0 < 0) : hasNeg l = true := by
  unfold hasNeg
  rw [List.any_eq_true]
  exact ⟨l[i], List.getElem_mem _, by simpa using hn⟩

set_option maxHeartbeats 4000000 in
set_option maxRecDepth 100000 in
theorem index_calls (A : Option Addr) (c : Nat) (l : List S46) (w : World) (hr0 : Kd.C k46 w A l.length l) (hc : l.length ≤ c) (hl : l.length ≤ 9223372036854775807) :
    Calls Tryz.prog 33 #[.slice A l.length c, .func (.func 18) #[] #[]] w fun e w' => ∃ r : Int, e = .returned (.int .i64 r) ∧ decide (0 ≤ r) = hasNeg l ∧ Below w.heap.size w w' := by
  have hu46 := Tryz.underlying46
  have HR := Aside0.mk hr0
  clear hr0
  have W0 := Aside0.mk (Below.refl w.heap.size w)
  go_enter Tryz.func33, Tryz.ntmps33
  go_wp2
  go_loopg [8] l.length (fun gk v8 wr => ∃ i : Nat, v8 = .int .i64 i ∧ Aside0 (i + gk = l.length) ∧ Aside0 (hasNeg (l.take i) = false) ∧ Aside0 (Below w.heap.size w wr))
  case atStart => exact ⟨0, rfl, ⟨by omega⟩, ⟨by simp [hasNeg]⟩, W0⟩
  case round =>
    clear W0
    obtain ⟨i, rfl, hi, NB, WB⟩ := hrel
    by_cases hlt : i < l.length
    · have b1 := eq_true (show (i : Int) < (l.length : Int) by omega)
      have b2 := eq_true (show (0 : Int) ≤ (i : Int) by omega)
      have hs := hasNeg_step l i hlt
      rw [NB.out, Bool.false_or] at hs
      have hof := hasNeg_of l i hlt
      rw [← rd46_at l i hlt] at hs hof
      obtain ⟨ad, eA, hx0, hx1⟩ := at_T46 (Kd.C_below HR.out WB.out) (i : Int) (by omega) (by omega)
      cases eA
      rw [Int.toNat_natCast] at hx0 hx1
      generalize rd_T46 l (i : Int) = x at hx0 hx1 hs hof
      have HS := Aside0.mk hs
      clear hs
      by_cases hn : x.f0 < 0
      · have HN := Aside0.mk (hof hn)
        clear hof
        have e1 := Aside0.mk (show delta_below.f x.f0 x.f1 = some true by simp [delta_below.f, hn])
        clear hn
        go_wp2_with (first | ((with_reducible refine (delta_below.calls x.f0 x.f1 true _ e1.out).mono ?_); rintro e w1 ⟨rfl, hb⟩; have W1 := Aside0.mk (below_then WB.out WB.out.size hb); clear hb))
        go_wp2_with fail
        go_ret
        exact ⟨_, rfl, by rw [HN.out]; exact decide_eq_true (by omega), W1.out⟩
      · have e1 := Aside0.mk (show delta_below.f x.f0 x.f1 = some false by simp [delta_below.f, hn])
        have HS2 := Aside0.mk (HS.out.trans (decide_eq_false hn))
        clear hn hof
        go_wp2_with (first | ((with_reducible refine (delta_below.calls x.f0 x.f1 false _ e1.out).mono ?_); rintro e w1 ⟨rfl, hb⟩; have W1 := Aside0.mk (below_then WB.out WB.out.size hb); clear hb))
        go_wp2_with fail
        go_roundg (l.length - i - 1)
        case measure => have := hi.out; omega
        case rel => exact ⟨i + 1, by go_num, ⟨by have := hi.out; omega⟩, HS2, W1⟩
    · obtain rfl : i = l.length := by have := hi.out; omega
      have b1 := eq_false (show ¬ (l.length : Int) < (l.length : Int) by omega)
      have NB := NB.out
      rw [List.take_length] at NB
      go_wp2
      go_ret
      exact ⟨_, rfl, by rw [NB]; rfl, WB.out⟩

set_option maxHeartbeats 4000000 in
set_option maxRecDepth 100000 in
theorem contains_calls (A : Option Addr) (c : Nat) (l : List S46) (w : World) (hr0 : Kd.C k46 w A l.length l) (hc : l.length ≤ c) (hl : l.length ≤ 9223372036854775807) :
    Calls Tryz.prog 17 #[.slice A l.length c, .func (.func 18) #[] #[]] w fun e w' => e = .returned (.bool (hasNeg l)) ∧ Below w.heap.size w w' := by
  have IC := Aside0.mk (index_calls A c l w hr0 hc hl)
  go_enter Tryz.func17, Tryz.ntmps17
  go_wp2_with (first | (go_at_call 33; (with_reducible refine IC.out.mono ?_); rintro e w1 ⟨r, rfl, hr, hb⟩; have HR1 := Aside0.mk hr; have W1 := Aside0.mk hb; clear hr hb))
  go_wp2
  go_ret
  rw [← HR1.out]
  exact ⟨rfl, W1.out⟩
end Go.Proofs.YtoljjgabgdifbaaGreatDoor.H


namespace Go.Proofs.YtoljjgabgdifbaaGreatDoor.H
open Go.RowKit Go.Proofs.YtoljjgabgdifbaaGreatDoorW.PrintWords Go.Proofs.YtoljjgabgdifbaaGreatDoorW.PrintLast Go.Proofs.YtoljjgabgdifbaaGreatDoorW.PrintMore
attribute [local go_sem] max2_int min2_int max_two min_two max_three min_three max_four min_four
set_option linter.unusedVariables false
set_option linter.unusedSimpArgs false

/-- The table that FormatInt reads. -/
abbrev Tab (w : World) : Prop := Lib.TabIs Tryz.prog w "internal/strconv.uint64pow10" .u64 Lib.pow10Tab
theorem Tab.below {w w' : World} (h : Tab w) (hb : Below w.heap.size w w') : Tab w' := by
  have h2 : w.var? Tryz.prog "internal/strconv.uint64pow10" = _ := h
  show w'.var? Tryz.prog "internal/strconv.uint64pow10" = _
  unfold World.var? at h2 ⊢
  cases hg : Tryz.prog.globalNamed "internal/strconv.uint64pow10" with
  | none => rw [hg] at h2; exact absurd h2 (by simp)
  | some g =>
    rw [hg] at h2
    simp only [Option.bind_some] at h2 ⊢
    have hlt : g < w.heap.size := by
      apply Classical.byContradiction
      intro hn
      rw [Array.getElem?_eq_none (by omega)] at h2
      exact absurd h2 (by simp)
    rw [hb.block g hlt]
    exact h2
theorem R_slice {α : Type} {d : Kd α} {e : Nat} {w : World} {base : Nat} {ok : Nat → Prop} {v : Value} {xs : List α} (h : Kd.R d e w base ok v xs) : ∃ A c, v = .slice A xs.length c ∧ xs.length ≤ c ∧ Kd.C d w A xs.length xs := by
  have h2 := h
  obtain ⟨h0, inner, ho, hr⟩ := h2
  obtain ⟨A, c, rfl⟩ := own_slice ho
  exact ⟨A, c, rfl, (Kd.R_reads' h).2⟩

theorem below_grow_ (w : World) (k : Nat) (os : Array Obj) : Below w.heap.size w (Go.Sort.grow (w.drewN k) os) := by
  have h := pw_below_drewN (Below.refl w.heap.size w) k
  refine ⟨h.os, h.tape, h.output, ?_, fun j hj => ?_⟩
  · show _ ≤ ((w.drewN k).heap ++ os).size
    have := h.size
    rw [Array.size_append]
    omega
  · show ((w.drewN k).heap ++ os)[j]? = _
    rw [Array.getElem?_append_left (by have := h.size; omega)]
    exact h.block j hj

set_option maxHeartbeats 4000000 in
set_option maxRecDepth 100000 in
theorem dec_calls (n : Int) (w : World) (h0 : -9223372036854775808 ≤ n) (h1 : n ≤ 9223372036854775807) (ht : Tab w) :
    Calls Tryz.prog 38 #[.int .i64 n] w fun e w' => e = .returned (.string ⟨(Lib.itoa n).toArray⟩) ∧ Below w.heap.size w w' := by
  have FC := Aside0.mk (Tryz.strconv_FormatInt_10 n h0 h1 w ht)
  go_enter Tryz.func38, Tryz.ntmps38
  go_wp2_with (first | (go_at_call 48; (with_reducible refine FC.out.mono ?_); rintro e w1 ⟨rfl, k, os, rfl⟩))
  go_wp2
  go_ret
  exact ⟨rfl, below_grow_ w k os⟩

/-- A write's row. -/
def writeB (x : S46) : ByteArray := ⟨(rowB [⟨(Lib.itoa x.f0).toArray⟩, x.f1]).toArray⟩

set_option maxHeartbeats 8000000 in
set_option maxRecDepth 100000 in
theorem writeRow_calls (x : S46) (w : World) (h0 : -9223372036854775808 ≤ x.f0) (h1 : x.f0 ≤ 9223372036854775807) (ht : Tab w) (hL : (rowB [⟨(Lib.itoa x.f0).toArray⟩, x.f1]).length ≤ 140737488355328) :
    Calls Tryz.prog 21 #[.agg #[.int .i64 x.f0, .string x.f1]] w fun e w' => e = .returned (.string (writeB x)) ∧ Below w.heap.size w w' := by
  have HT := Aside0.mk ht
  have B0 := Aside0.mk (Blk.new w 46 #[.int .i64 x.f0, .string x.f1])
  have W0 := Aside0.mk ((Below.refl w.heap.size w).alloc (Nat.le_refl _) (.cells #[.int .i64 x.f0, .string x.f1] 46))
  go_enter Tryz.func21, Tryz.ntmps21
  go_wp2_with fail
  generalize w.alloc (.cells #[.int .i64 x.f0, .string x.f1] 46) = w0 at B0 W0 ⊢
  have B1 := Aside0.mk B0.out.drew
  have W1 := Aside0.mk (below_drew W0.out)
  refine start_ (n := 8) (S := fun w' => w'.cell? ⟨w.heap.size, 0, none⟩ = some (.int .i64 x.f0) ∧ w'.cell? ⟨w.heap.size, 1, none⟩ = some (.string x.f1)) (ds := []) #[false, false, false, false, false, false, false, false] (by kernel_rfl) rfl rfl ⟨(B0.out.drew.cell 0), (B0.out.drew.cell 1)⟩ (fun hHeld => ?_)
  refine pure_ (i := 0) (N := some 3) (v := ?_) (a' := ?_) #[true, false, false, false, false, false, false, false] rfl rfl (by kernel_rfl) (fun _ _ _ h => h) (Or.inl ⟨by rfl, ?_⟩) ?_ ?_
  rotate_left
  · intro w'
    go_simp
    with_reducible rfl
  rotate_left
  · simp only [Act.put, List.setIfInBounds_toArray, List.set_cons_zero, List.set_cons_succ, i64_w, i32_w]
    rfl
  refine pure_ (i := 3) (N := some 6) (v := ?_) (a' := ?_) #[true, false, false, true, false, false, false, false] rfl rfl (by kernel_rfl) (fun _ _ _ h => h) (Or.inl ⟨by rfl, ?_⟩) ?_ ?_
  rotate_left
  · intro w'
    go_simp
    with_reducible rfl
  rotate_left
  · simp only [Act.put, List.setIfInBounds_toArray, List.set_cons_zero, List.set_cons_succ, i64_w, i32_w]
    rfl
  refine take_ (i := 1) (N := some 4) (v := ?_) (a' := ?_) #[true, true, false, true, false, false, false, false] rfl rfl (by kernel_rfl) (fun _ _ _ h => h) (Or.inl ⟨by rfl, ?_⟩) hHeld ?_ ?_
  rotate_left
  · rintro w' ⟨s0, s1⟩
    go_simp
    with_reducible rfl
  rotate_left
  · simp only [Act.put, List.setIfInBounds_toArray, List.set_cons_zero, List.set_cons_succ, i64_w, i32_w]
    rfl
  refine take_ (i := 4) (N := some 7) (v := ?_) (a' := ?_) #[true, true, false, true, true, false, false, false] rfl rfl (by kernel_rfl) (fun _ _ _ h => h) (Or.inl ⟨by rfl, ?_⟩) hHeld ?_ ?_
  rotate_left
  · rintro w' ⟨s0, s1⟩
    go_simp
    with_reducible rfl
  rotate_left
  · simp only [Act.put, List.setIfInBounds_toArray, List.set_cons_zero, List.set_cons_succ, i64_w, i32_w]
    rfl
  refine one_ (i := 2) (N := some 5) #[true, true, true, true, true, false, false, false] rfl rfl (by kernel_rfl) (by decide) (fun K hK => ?_)
  refine goes_ Tryz.func38 (by kernel_rfl) rfl #[.int .i64 x.f0] (by rfl) rfl rfl (by simp only [List.map_toArray, List.map_cons, List.map_nil]; rfl) ?_
  with_reducible refine (dec_calls x.f0 _ h0 h1 (Tab.below HT.out W1.out)).mono ?_
  rintro e w3 ⟨rfl, hb⟩
  refine ⟨_, rfl, ?_⟩
  have B2 := Aside0.mk (B1.out.below hb B1.out.lt)
  have W2 := Aside0.mk (below_then W1.out W1.out.size hb)
  clear hb
  refine hK.out _ _ ⟨(B2.out.cell 0), (B2.out.cell 1)⟩ (fun hHeld => ?_)
  clear hK K
  refine norm_ (a' := ?_) ?_ ?_
  rotate_left
  · show Act.put _ (some 5) _ = _
    simp only [Act.put, List.setIfInBounds_toArray, List.set_cons_zero, List.set_cons_succ, i64_w, i32_w]
    rfl
  refine one_ (i := 5) (N := some 8) #[true, true, true, true, true, true, false, false] rfl rfl (by kernel_rfl) (by decide) (fun K hK => ?_)
  refine value_ (w1 := ?_) (v := ?_) (by rfl) rfl ?_ ?_
  rotate_left 2
  · go_simp
    constructor
    · rfl
    · rfl
  have B3 := Aside0.mk (B2.out.alloc (.cells (List.map Value.string [⟨(Lib.itoa x.f0).toArray⟩, x.f1]).toArray 9))
  have W3 := Aside0.mk (W2.out.alloc (by have := W2.out.size; omega) (.cells (List.map Value.string [⟨(Lib.itoa x.f0).toArray⟩, x.f1]).toArray 9))
  refine hK.out _ _ ⟨(B3.out.cell 0), (B3.out.cell 1)⟩ (fun hHeld => ?_)
  clear hK K
  refine norm_ (a' := ?_) ?_ ?_
  rotate_left
  · show Act.put _ (some 8) _ = _
    simp only [Act.put, List.setIfInBounds_toArray, List.set_cons_zero, List.set_cons_succ, i64_w, i32_w]
    rfl
  refine one_ (i := 6) (N := some 9) #[true, true, true, true, true, true, true, false] rfl rfl (by kernel_rfl) (by decide) (fun K hK => ?_)
  refine goes_ Tryz.func19 (by kernel_rfl) rfl #[.slice (some ⟨w3.heap.size, 0, none⟩) [⟨(Lib.itoa x.f0).toArray⟩, x.f1].length 2] (by rfl) rfl rfl (by simp only [List.map_toArray, List.map_cons, List.map_nil]; rfl) ?_
  refine (rowOf_calls (some ⟨w3.heap.size, 0, none⟩) 2 [⟨(Lib.itoa x.f0).toArray⟩, x.f1] _ (strings_new w3 [⟨(Lib.itoa x.f0).toArray⟩, x.f1] (by simp)) (by simp) hL).mono ?_
  rintro e w5 ⟨rfl, hb⟩
  refine ⟨_, rfl, ?_⟩
  have B4 := Aside0.mk (B3.out.below hb B3.out.lt)
  have W4 := Aside0.mk (below_then W3.out W3.out.size hb)
  clear hb
  refine hK.out _ _ ⟨(B4.out.cell 0), (B4.out.cell 1)⟩ (fun hHeld => ?_)
  clear hK K
  refine norm_ (a' := ?_) ?_ ?_
  rotate_left
  · show Act.put _ (some 9) _ = _
    simp only [Act.put, List.setIfInBounds_toArray, List.set_cons_zero, List.set_cons_succ, i64_w, i32_w]
    rfl
  refine pure_ (i := 7) (N := some 2) (v := ?_) (a' := ?_) #[true, true, true, true, true, true, true, true] rfl rfl (by kernel_rfl) (fun _ _ _ h => h) (Or.inl ⟨by rfl, ?_⟩) ?_ ?_
  rotate_left
  · intro w'
    go_simp
    with_reducible rfl
  rotate_left
  · simp only [Act.put, List.setIfInBounds_toArray, List.set_cons_zero, List.set_cons_succ, i64_w, i32_w]
    rfl
  refine done_ (by kernel_rfl) ?_
  
  clear hHeld
  go_wp2_with fail
  go_ret
  exact ⟨rfl, W4.out⟩

theorem rowB_mem {l : List ByteArray} {s : ByteArray} (h : s ∈ l) : s.size ≤ (rowB l).length := by
  induction l with
  | nil => simp at h
  | cons t l ih =>
    simp only [rowB, List.length_append, Array.length_toList]
    rcases List.mem_cons.1 h with rfl | h
    · have : s.data.size = s.size := rfl
      omega
    · have := ih h
      omega

set_option maxHeartbeats 8000000 in
set_option maxRecDepth 100000 in
theorem wrows_calls (A : Option Addr) (c : Nat) (l : List S46) (w : World) (hr0 : Kd.C k46 w A l.length l) (hc : l.length ≤ c) (hlen : l.length ≤ 5000000000000) (ht : Tab w)
    (hx : ∀ x ∈ l, -9223372036854775808 ≤ x.f0 ∧ x.f0 ≤ 9223372036854775807) (hL : (rowB (l.map writeB)).length ≤ 140737488355328) :
    Calls Tryz.prog 20 #[.slice A l.length c, .func (.func 21) #[] #[]] w fun e w' => e = .returned (.string ⟨(rowB (l.map writeB)).toArray⟩) ∧ Below w.heap.size w w' := by
  have hu46 := Tryz.underlying46
  have HR := Aside0.mk hr0
  have HT := Aside0.mk ht
  have HX := Aside0.mk hx
  have HL := Aside0.mk hL
  have LM := Aside0.mk hlen
  clear hr0 ht hx hL
  have W0 := Aside0.mk (Below.refl w.heap.size w)
  go_enter Tryz.func20, Tryz.ntmps20
  go_wp2
  go_loopg [5, 10] l.length (fun gk v5 v10 wr => ∃ i : Nat, v10 = .int .i64 i ∧ Aside0 (i + gk = l.length) ∧ Aside0 (Kd.R Kd.string 9 wr w.heap.size (fun _ => True) v5 ((l.take i).map writeB)) ∧ Aside0 (Below w.heap.size w wr))
  case atStart => exact ⟨0, rfl, ⟨by omega⟩, ⟨Kd.R_nil _ _ _ _ _⟩, W0⟩
  case round =>
    clear W0
    obtain ⟨i, rfl, hi, HO, WB⟩ := hrel
    by_cases hlt : i < l.length
    · have b1 := eq_true (show (i : Int) < (l.length : Int) by omega)
      have b2 := eq_true (show (0 : Int) ≤ (i : Int) by omega)
      obtain ⟨ad, eA, hx0, hx1⟩ := at_T46 (Kd.C_below HR.out WB.out) (i : Int) (by omega) (by omega)
      cases eA
      rw [Int.toNat_natCast] at hx0 hx1
      have et : (l.take (i + 1)).map writeB = (l.take i).map writeB ++ [writeB (rd_T46 l (i : Int))] := by
        rw [rd46_at l i hlt, List.take_add_one, List.getElem?_eq_getElem hlt, List.map_append]
        rfl
      have hm : rd_T46 l (i : Int) ∈ l := by rw [rd46_at l i hlt]; exact List.getElem_mem _
      have hxx := HX.out _ hm
      have hsz : (rowB [⟨(Lib.itoa (rd_T46 l (i : Int)).f0).toArray⟩, (rd_T46 l (i : Int)).f1]).length ≤ 140737488355328 := by
        have h1 := rowB_mem (List.mem_map_of_mem (f := writeB) hm)
        have h2 : (writeB (rd_T46 l (i : Int))).size = (rowB [⟨(Lib.itoa (rd_T46 l (i : Int)).f0).toArray⟩, (rd_T46 l (i : Int)).f1]).length := by
          show (rowB _).toArray.size = _
          rw [List.size_toArray]
        have := HL.out
        omega
      generalize rd_T46 l (i : Int) = x at hx0 hx1 et hxx hsz
      have HXX := Aside0.mk hxx
      have HSZ := Aside0.mk hsz
      have ET := Aside0.mk et
      clear et hm hxx hsz
      have BK := Blk.new wr 46 #[.int .i64 x.f0, .string x.f1]
      have BWa := WB.out.alloc WB.out.size (.cells #[.int .i64 x.f0, .string x.f1] 46)
      have HOa := Kd.R_alloc HO.out (.cells #[.int .i64 x.f0, .string x.f1] 46)
      generalize hwa : wr.alloc (.cells #[.int .i64 x.f0, .string x.f1] 46) = wa at BK BWa HOa
      have HWA := Aside0.mk hwa
      clear hwa
      have k0 : wa.cell? ⟨wr.heap.size, 0, none⟩ = some (.int .i64 x.f0) := BK.cell 0
      have k1 : wa.cell? ⟨wr.heap.size, 1, none⟩ = some (.string x.f1) := BK.cell 1
      have BWa := Aside0.mk BWa
      have HOa := Aside0.mk HOa
      clear BK HO
      have HTa := Aside0.mk (Tab.below HT.out BWa.out)
      go_wp2_with (first | (rw [show wr.alloc (.cells #[.int .i64 x.f0, .string x.f1] 46) = wa from HWA.out]) | ((with_reducible refine (writeRow_calls x wa HXX.out.1 HXX.out.2 HTa.out HSZ.out).mono ?_); rintro e w1 ⟨rfl, hb⟩; have BWb := Aside0.mk (below_then BWa.out BWa.out.size hb); have HOb := Aside0.mk (Kd.R_below HOa.out hb); clear hb) | ((with_reducible refine gate_builtin (b := .append) (xs := #[.tmp 14, .tmp 18]) rfl ?_); at_builtin; refine Kd.R_append Kd.string (w0 := w) w.heap.size rfl (.tmp 14) (.tmp 18) 22 9 (.string ⟨#[]⟩) 16 rfl Tryz.underlying22 info9c rfl (by decide) (by omega) u5 ((l.take i).map writeB) (writeB x) [.string (writeB x)] (fun _ => True) (fun _ => False) rfl rfl ?aP (fun _ hk => hk.elim) ?aF ?aO ?aB ?aS ?aL ?_; (case aP => exact rfl); (case aB => exact BWb.out); (case aF => exact (fun _ _ => trivial)); (case aO => exact HOb.out); (case aS => exact BWb.out.size); (case aL => rw [List.length_map, List.length_take]; have := LM.out; omega); intro v245 w13 ho hb hg hat; have n0_ := Aside0.mk (hb); have n1_ := Aside0.mk (ho); clear BWb HOb; have BWb := n0_; have HOb := n1_; clear n0_ n1_ ho hb hg hat))
      go_wp2_with fail
      go_roundg (l.length - i - 1)
      case measure => have := hi.out; omega
      case rel => exact ⟨i + 1, by go_num, ⟨by have := hi.out; omega⟩, ⟨by rw [ET.out]; exact HOb.out⟩, BWb⟩
    · obtain rfl : i = l.length := by have := hi.out; omega
      have b1 := eq_false (show ¬ (l.length : Int) < (l.length : Int) by omega)
      have HO := HO.out
      rw [List.take_length] at HO
      obtain ⟨A5, c5, h5, l5, C5⟩ := R_slice HO
      cases h5
      have RC := rowOf_calls A5 c5 (l.map writeB) wr C5 l5 HL.out
      rw [List.length_map] at RC
      have RC := Aside0.mk RC
      clear HO C5
      go_wp2_with (first | ((with_reducible refine RC.out.mono ?_); rintro e w1 ⟨rfl, hb⟩; have W1 := Aside0.mk (below_then WB.out WB.out.size hb); clear hb))
      go_wp2_with fail
      go_ret
      exact ⟨rfl, W1.out⟩
end Go.Proofs.YtoljjgabgdifbaaGreatDoor.H


namespace Go.Proofs.YtoljjgabgdifbaaGreatDoor.H
open Go.RowKit Go.Proofs.YtoljjgabgdifbaaGreatDoorW.PrintWords Go.Proofs.YtoljjgabgdifbaaGreatDoorW.PrintLast Go.Proofs.YtoljjgabgdifbaaGreatDoorW.PrintMore
attribute [local go_sem] max2_int min2_int max_two min_two max_three min_three max_four min_four
set_option linter.unusedVariables false
set_option linter.unusedSimpArgs false

/-- Where a variable of the library's holds an interface's value. -/
def HoldsI (w : World) (n : String) : Prop := ∃ tp p, w.var? Tryz.prog n = some #[.iface tp p]
theorem var_below {w w' : World} {n : String} {cs : Array Value} (h2 : w.var? Tryz.prog n = some cs) (hb : Below w.heap.size w w') : w'.var? Tryz.prog n = some cs := by
  unfold World.var? at h2 ⊢
  cases hg : Tryz.prog.globalNamed n with
  | none => rw [hg] at h2; exact absurd h2 (by simp)
  | some g =>
    rw [hg] at h2
    simp only [Option.bind_some] at h2 ⊢
    have hlt : g < w.heap.size := by
      apply Classical.byContradiction
      intro hn
      rw [Array.getElem?_eq_none (by omega)] at h2
      exact absurd h2 (by simp)
    rw [hb.block g hlt]
    exact h2
/-- What the library's variables hold, as far as it is read. -/
structure Vars (w : World) : Prop where
  tab : Tab w
  syn : HoldsI w "strconv.ErrSyntax"
  rng : HoldsI w "strconv.ErrRange"
theorem Vars.below {w w' : World} (h : Vars w) (hb : Below w.heap.size w w') : Vars w' := by
  obtain ⟨t, ⟨tp, p, h1⟩, ⟨tq, q, h2⟩⟩ := h
  exact ⟨Tab.below t hb, ⟨tp, p, var_below h1 hb⟩, ⟨tq, q, var_below h2 hb⟩⟩
theorem parse_range {l : List UInt8} {v : Int} (h : Lib.parseIntB 64 l = .ok v) : -9223372036854775808 ≤ v ∧ v ≤ 9223372036854775807 := by
  unfold Lib.parseIntB at h
  have e : (2 : Nat) ^ (64 - 1) = 9223372036854775808 := by decide
  rw [e] at h
  cases l with
  | nil => cases h
  | cons c r =>
    simp only at h
    split at h
    · cases h
    · cases h
    · split at h
      · cases h
      · split at h
        · cases h
        · injection h with h
          subst h
          split <;> omega
theorem bytes_eqz {a b : ByteArray} (h : a.toList = b.toList) : a = b := by
  rw [ByteArray.toList_eq, ByteArray.toList_eq] at h
  cases a
  cases b
  congr 1
  exact Array.toList_inj.1 h
/-- The number of a decimal text, as the program tells it: none but what is written so. -/
def intP (s : ByteArray) : Int × Bool := match Lib.parseIntB 64 s.data.toList with
  | .ok v => if Lib.itoa v = s.data.toList then (v, true) else (0, false)
  | _ => (0, false)

set_option maxHeartbeats 4000000 in
set_option maxRecDepth 100000 in
theorem int_calls (s : ByteArray) (hs : s.size ≤ 281474976710656) (w : World) (hv : Vars w) :
    Calls Tryz.prog 40 #[.string s] w fun e w' => e = .returned (.tuple #[.int .i64 (intP s).1, .bool (intP s).2]) ∧ Below w.heap.size w w' := by
  have hsyn := hv.syn
  have hrng := hv.rng
  have HT := Aside0.mk hv.tab
  clear hv
  cases hp : Lib.parseIntB 64 s.data.toList
  case range =>
    obtain ⟨tp, p, hrng⟩ := hrng
    have PC := Aside0.mk (Tryz.strconv_ParseInt_10_at64_range_var s hs hp tp p w hrng)
    have e : intP s = (0, false) := by simp [intP, hp]
    rw [e]
    clear hsyn hrng hp e
    go_enter Tryz.func40, Tryz.ntmps40
    go_wp2_with (first | (go_at_call 49; (with_reducible refine PC.out.mono ?_); rintro e w1 ⟨N, rfl, _, _, hb⟩; have W1 := Aside0.mk hb; clear hb))
    go_wp2
    go_ret2
    exact ⟨rfl, W1.out⟩
  case ok v =>
    obtain ⟨v0, v1⟩ := parse_range hp
    have PC := Aside0.mk ((Tryz.strconv_ParseInt_10_at64_ok s (by omega) v hp w).mono (R' := fun e w' => e = .returned (.tuple #[.int .i64 v, .nilIface]) ∧ Below w.heap.size w w') (fun e w' ⟨h1, h2⟩ => ⟨h1, by
      rcases h2 with rfl | ⟨t, rfl⟩
      · exact Below.refl _ _
      · exact bytes_below (Below.refl _ _) (Nat.le_refl _) _ _⟩))
    by_cases hq : Lib.itoa v = s.data.toList
    · have e : intP s = (v, true) := by simp [intP, hp, hq]
      have es : (⟨(Lib.itoa v).toArray⟩ : ByteArray) = s := by rw [hq]
      rw [e]
      have c1 : ((⟨(Lib.itoa v).toArray⟩ : ByteArray).toList == s.toList) = true := by rw [es]; simp
      have c2 : ((⟨(Lib.itoa v).toArray⟩ : ByteArray).toList != s.toList) = false := by rw [es]; simp
      have c3 : (Lib.itoa v == s.toList) = true := by rw [ByteArray.toList_eq, hq]; simp
      clear hsyn hrng hp e hq es c1 c2
      go_enter Tryz.func40, Tryz.ntmps40
      go_wp2_with (first | (go_at_call 49; (with_reducible refine PC.out.mono ?_); rintro e w1 ⟨rfl, hb⟩; have W1 := Aside0.mk hb; clear hb) | (go_at_call 38; (with_reducible refine (dec_calls v w1 v0 v1 (Tab.below HT.out W1.out)).mono ?_); rintro e w2 ⟨rfl, hb⟩; have W2 := Aside0.mk (below_then W1.out W1.out.size hb); clear hb))
      go_wp2_with fail
      go_ret2
      exact ⟨rfl, W2.out⟩
    · have e : intP s = (0, false) := by simp [intP, hp, hq]
      rw [e]
      have c0 : (⟨(Lib.itoa v).toArray⟩ : ByteArray).toList ≠ s.toList := fun h => hq (by have := congrArg (fun b : ByteArray => b.data.toList) (bytes_eqz h); simpa using this)
      have c1 : ((⟨(Lib.itoa v).toArray⟩ : ByteArray).toList == s.toList) = false := by simpa using c0
      have c2 : ((⟨(Lib.itoa v).toArray⟩ : ByteArray).toList != s.toList) = true := by simpa using c0
      have c3 : (Lib.itoa v == s.toList) = false := by rw [ByteArray.toList_eq]; simpa using hq
      clear hsyn hrng hp e hq c0 c1 c2
      go_enter Tryz.func40, Tryz.ntmps40
      go_wp2_with (first | (go_at_call 49; (with_reducible refine PC.out.mono ?_); rintro e w1 ⟨rfl, hb⟩; have W1 := Aside0.mk hb; clear hb) | (go_at_call 38; (with_reducible refine (dec_calls v w1 v0 v1 (Tab.below HT.out W1.out)).mono ?_); rintro e w2 ⟨rfl, hb⟩; have W2 := Aside0.mk (below_then W1.out W1.out.size hb); clear hb))
      go_wp2_with fail
      go_ret2
      exact ⟨rfl, W2.out⟩
  · obtain ⟨tp, p, hsyn⟩ := hsyn
    have PC := Aside0.mk (Tryz.strconv_ParseInt_10_at64_syntax_var s hs hp tp p w hsyn)
    have e : intP s = (0, false) := by simp [intP, hp]
    rw [e]
    clear hsyn hrng hp e
    go_enter Tryz.func40, Tryz.ntmps40
    go_wp2_with (first | (go_at_call 49; (with_reducible refine PC.out.mono ?_); rintro e w1 ⟨N, rfl, _, _, hb⟩; have W1 := Aside0.mk hb; clear hb))
    go_wp2
    go_ret2
    exact ⟨rfl, W1.out⟩
end Go.Proofs.YtoljjgabgdifbaaGreatDoor.H

