/- Parts of the proof: G6, T4, H16, J6, R7, T6. -/
import Derived.Test.YtoljjgabgdifbaaZjJ5toT3
import Derived.Test.YtoljjgabgdifbaaZjG2
import Derived.Test.YtoljjgabgdifbaaZjR3toR5
import Derived.Test.YtoljjgabgdifbaaZjG5
import Derived.Test.YtoljjgabgdifbaaZjH13toJ2
import Derived.Test.YtoljjgabgdifbaaRows
import Derived.Test.YtoljjgabgdifbaaZjH10toH11
import Derived.WalkKit
import Derived.ProofKit
import Derived.OpenShut
import Derived.ShutString
import Derived.ChangeOld
import Derived.Below
import Derived.SizedLaws
import Derived.JoinedCond
import Derived.SliceStrings
import Derived.Lib.SmallJoins
import Derived.Test.YtoljjgabgdifbaaZjJ3toR1
import Derived.Test.YtoljjgabgdifbaaZjT5toJ4

namespace Go.Proofs.Ytoljjgabgdifbaa.H
open Go.RowKit Go.Proofs.YtoljjgabgdifbaaW.PrintWords Go.Proofs.YtoljjgabgdifbaaW.PrintLast Go.Proofs.YtoljjgabgdifbaaW.PrintMore
attribute [local go_sem] max2_int min2_int max_two min_two max_three min_three max_four min_four
set_option linter.unusedVariables false
set_option linter.unusedSimpArgs false
theorem info9a : (Try.prog.info? 9).map (fun i => (i.zero, i.size, i.bytes)) = some (some (.string ⟨#[]⟩), 1, 16) := by kernel_rfl
/-! ### hibernacleref02_Apart: function 29 -/
noncomputable def hibernacleref02_Apart.f (l0 : List ByteArray) : Option Bool := if 0 < l0.length then (if l0.length ≤ 1048576 then (if (l0.all fun s => decide (s.size ≤ 140737488355328)) = true then some (aptB l0) else none) else none) else none
theorem hibernacleref02_Apart.calls (A0 : Option Addr) (c0 : Nat) (l0 : List ByteArray) (r : Bool) (w : World) (hr0 : Kd.C Kd.string w A0 l0.length l0) (hc0 : l0.length ≤ c0) (h : hibernacleref02_Apart.f l0 = some r) :
    Calls Try.prog 29 #[.slice A0 l0.length c0] w fun e w' => e = .returned (.bool r) ∧ Below w.heap.size w w' := by
  unfold hibernacleref02_Apart.f at h
  split at h
  case isFalse => cases h
  case isTrue h0 =>
  split at h
  case isFalse => cases h
  case isTrue h1 =>
  split at h
  case isFalse => cases h
  case isTrue h2 =>
  cases h
  refine rApart_calls A0 c0 l0 w hr0 hc0 h1 h0 (fun j => ?_)
  rcases Nat.lt_or_ge j l0.length with hj | hj
  · have e : at_ l0 j = l0[j] := by simp [at_, List.getD_eq_getElem?_getD, List.getElem?_eq_getElem hj]
    rw [e]
    simpa using List.all_eq_true.1 h2 l0[j] (List.getElem_mem hj)
  · have e : at_ l0 j = ByteArray.empty := by simp [at_, List.getD_eq_getElem?_getD, List.getElem?_eq_none hj]
    rw [e]
    decide

/-! ### hibernaclelaw35_apart: function 14 -/
noncomputable def hibernaclelaw35_apart.l0 : Nat → List ByteArray → List (S24) → Int → Int → Option (Bool)
  | 0, _, _, _, _ => none
  | k + 1, x3, x9, x10, x11 => if x11 < x10 then (if 0 ≤ x11 then (if x11 < (x9.length : Int) then ((hibernacleref32_Bytes.f k ((rd_T24 x9 x11).f0) ((rd_T24 x9 x11).f1) ((rd_T24 x9 x11).f2)).bind fun t251 => (if x3.length < 8796093022208 then (hibernaclelaw35_apart.l0 k (x3 ++ [t251]) x9 x10 (wrap64 (x11 + 1))) else (none))) else (none)) else (none)) else ((hibernacleref02_Apart.f x3).bind fun t255 => (some t255))
noncomputable def hibernaclelaw35_apart.f (k : Nat) (l0 : List (S24)) : Option (Bool) := (hibernacleref32_Bytes.f k ([] : List ByteArray) ([] : List ByteArray) (⟨#[]⟩ : ByteArray)).bind fun t245 => (hibernaclelaw35_apart.l0 k (([t245] : List ByteArray)) l0 (l0.length : Int) 0)
theorem hibernaclelaw35_apart.mono_l : ∀ k, (∀ y0 y1 y2 y3, LeO (hibernaclelaw35_apart.l0 k y0 y1 y2 y3) (hibernaclelaw35_apart.l0 (k + 1) y0 y1 y2 y3))
  | 0 => fun _ _ _ _ r h => by simp [hibernaclelaw35_apart.l0] at h
  | k + 1 => by
    have ih0 := hibernaclelaw35_apart.mono_l k
    · intro y0 y1 y2 y3
      unfold hibernaclelaw35_apart.l0
      repeat' first
      | (with_reducible exact ih0 _ _ _ _)
      | (with_reducible exact hibernacleref32_Bytes.mono _ _ _ _)
      | (with_reducible exact LeO.refl _)
      | (with_reducible exact LeO.none _)
      | (with_reducible refine LeO.ite ?_ ?_)
      | (with_reducible refine LeO.bind ?_ (fun _ => ?_))
      | exact ih0 _ _ _ _
      | exact hibernacleref32_Bytes.mono _ _ _ _
      | exact LeO.none _
      | refine LeO.ite ?_ ?_
      | refine LeO.bind ?_ (fun _ => ?_)
theorem hibernaclelaw35_apart.mono : ∀ a0 k, LeO (hibernaclelaw35_apart.f k a0) (hibernaclelaw35_apart.f (k + 1) a0) := by
  intro a0 k
  have ih0 := hibernaclelaw35_apart.mono_l k
  unfold hibernaclelaw35_apart.f
  repeat' first
      | (with_reducible exact ih0 _ _ _ _)
      | (with_reducible exact hibernacleref32_Bytes.mono _ _ _ _)
      | (with_reducible exact LeO.refl _)
      | (with_reducible exact LeO.none _)
      | (with_reducible refine LeO.ite ?_ ?_)
      | (with_reducible refine LeO.bind ?_ (fun _ => ?_))
      | exact ih0 _ _ _ _
      | exact hibernacleref32_Bytes.mono _ _ _ _
      | exact LeO.none _
      | refine LeO.ite ?_ ?_
      | refine LeO.bind ?_ (fun _ => ?_)
set_option maxHeartbeats 8000000 in
set_option maxRecDepth 100000 in
theorem hibernaclelaw35_apart.calls (k : Nat) (A0 : Option Addr) (c0 : Nat) (l0 : List (S24)) (r : Bool) (w : World) (hr0 : Kd.C k24 w A0 l0.length l0) (hc0 : l0.length ≤ c0) (h : hibernaclelaw35_apart.f k l0 = some r) :
    Calls Try.prog 14 #[.slice A0 l0.length c0] w fun e w' => e = .returned (.bool r) ∧ Below w.heap.size w w' := by
  have hu24 := Try.underlying24
  have HR0 := Aside0.mk hr0
  have HC0 := Aside0.mk hc0
  clear hr0 hc0
  have HB := Aside0.mk (Below.refl w.heap.size w)
  have H : ((hibernacleref32_Bytes.f k ([] : List ByteArray) ([] : List ByteArray) (⟨#[]⟩ : ByteArray)).bind fun t245 => (hibernaclelaw35_apart.l0 k (([t245] : List ByteArray)) l0 (l0.length : Int) 0)) = some r := h
  clear h
  replace H := Option.bind_eq_some_iff.mp H
  obtain ⟨t245, A20, H⟩ := H
  replace H : (hibernaclelaw35_apart.l0 k (([t245] : List ByteArray)) l0 (l0.length : Int) 0) = some r := H
  have A2 := Aside0.mk A20
  clear A20
  obtain ⟨y246, hy246⟩ : ∃ y_ : List ByteArray, y_ = (([t245] : List ByteArray)) := ⟨_, rfl⟩
  replace H : (hibernaclelaw35_apart.l0 k y246 l0 (l0.length : Int) 0) = some r := by first | (rw [hy246]; with_reducible exact H) | (have H2_ := (Option.bind_some _ _).symm.trans H; rw [hy246]; with_reducible exact H2_) | (have H2_ := (Option.bind_some _ _).symm.trans H; with_reducible exact H2_) | with_reducible exact H | (rw [hy246]; exact H) | exact H
  have Ny246 := Aside0.mk hy246
  clear hy246
  have H' := Aside0.mk H
  clear H
  go_enter Try.func14, Try.ntmps14
  go_wp2_with (first | ((with_reducible refine gate_callee (f := 28) rfl ?_); refine goesL_ (some 7) rfl rfl Try.func28 (by kernel_rfl) rfl #[.agg #[.slice none 0 0, .slice none 0 0, .string (⟨#[]⟩ : ByteArray)]] rfl (by (try simp only [List.map_toArray, List.map_cons, List.map_nil]); first | done | rfl | (simp only [List.length_drop, List.length_take]; rfl)) ?_; (refine (hibernacleref32_Bytes.calls k _ _ ([] : List ByteArray) _ _ ([] : List ByteArray) (⟨#[]⟩ : ByteArray) t245 _ ?side1 ?side2 ?side3 ?side4 A2.out).mono ?_); (case side1 => exact Kd.C_nil _ _); (case side2 => exact Nat.le_refl _); (case side3 => exact Kd.C_nil _ _); (case side4 => exact Nat.le_refl _); rintro e w3 ⟨rfl, hb⟩; refine ⟨_, rfl, ?_⟩; have n0_ := Aside0.mk (below_step (by repeat (first | (with_reducible first | exact HB.out | apply below_alloc | apply pw_below_drewN | apply below_drew1) | exact HB.out)) hb); clear HB; have HB := n0_; clear n0_; (try clear hb); (try clear hb2); (try clear hk); (try clear hi)) | ((with_reducible refine gate_dst (N := 8) rfl ?_); refine Kd.R_lit Kd.string _ 9 ?hg (N := 8) ?hd (xs := ([t245] : List ByteArray)) (inner := [.string t245]) (ok := fun _ => True) (okp := fun _ => True) ?hr ?hp (fun _ hk => hk) trivial (Below.refl _ _) (Nat.le_refl _) (by simp) ?_; (case hd => rfl); (case hg => rfl); (case hr => first | (go_simp; done) | (go_simp; rfl)); (case hp => exact (Reps.one (show Kd.M Kd.string _ _ _ t245 [.string t245] from rfl) (Reps.none _ _))); intro v247 w4 ho5 hb hg_ hnew_; clear hg_ hnew_; (first | rw [← Ny246.out] at ho5 | (simp only [Int.reduceToNat] at ho5; rw [← Ny246.out] at ho5)); have n0_ := Aside0.mk (Kd.R_lower ho5 (below_size (by repeat (first | (with_reducible first | exact HB.out | apply below_alloc | apply pw_below_drewN | apply below_drew1) | exact HB.out)))); have n1_ := Aside0.mk (below_step (by repeat (first | (with_reducible first | exact HB.out | apply below_alloc | apply pw_below_drewN | apply below_drew1) | exact HB.out)) hb); clear HB; have HO248 := n0_; have HB := n1_; clear n0_ n1_; clear hb ho5))
  go_loopg [3, 11] k (fun kq v3 v11 w' => ∃ (x3_1 : List ByteArray) (x11_1 : Int), v11 = .int .i64 x11_1 ∧ Aside0 (hibernaclelaw35_apart.l0 kq x3_1 l0 (l0.length : Int) x11_1 = some r) ∧ Aside0 (kq ≤ k) ∧ Aside0 (Kd.R Kd.string 9 w' w.heap.size (fun _ => True) v3 x3_1) ∧ Aside0 (Below w.heap.size w w'))
  case atStart => exact ⟨(y246), (0), (by first | rfl | (simp; done) | (simp [*]; done)), H', ⟨Nat.le_refl _⟩, ⟨by (with_reducible repeat (first | apply Kd.R_alloc | apply Kd.R_drewN | apply Kd.R_drew)); exact HO248.out⟩, ⟨by repeat (first | (with_reducible first | exact HB.out | apply below_alloc | apply pw_below_drewN | apply below_drew1) | exact HB.out)⟩⟩
  case round =>
    clear H'
    try clear c1
    try clear c2
    try clear p2
    obtain ⟨x3_1, x11_1, rfl, HA, HK1, HO_3, HB⟩ := hrel
    cases gk with
    | zero => exact absurd HA.out (by simp [hibernaclelaw35_apart.l0])
    | succ k1 =>
      have H := HA.out
      clear HA
      simp only [hibernaclelaw35_apart.l0] at H
      by_cases c6 : x11_1 < (l0.length : Int)
      · rw [if_pos c6] at H
        have c6b0 : decide (x11_1 < (l0.length : Int)) = true := decide_eq_true c6
        clear c6
        by_cases c7 : 0 ≤ x11_1
        · rw [if_pos c7] at H
          have c7b0 : decide (0 ≤ x11_1) = true := decide_eq_true c7
          clear c7
          by_cases c8 : x11_1 < (l0.length : Int)
          · rw [if_pos c8] at H
            have c8b0 : decide (x11_1 < (l0.length : Int)) = true := decide_eq_true c8
            clear c8
            replace H := Option.bind_eq_some_iff.mp H
            obtain ⟨t251, A90, H⟩ := H
            replace H : (if x3_1.length < 8796093022208 then (hibernaclelaw35_apart.l0 k1 (x3_1 ++ [t251]) l0 (l0.length : Int) (wrap64 (x11_1 + 1))) else (none)) = some r := H
            have A9 := Aside0.mk A90
            clear A90
            by_cases c10 : x3_1.length < 8796093022208
            · rw [if_pos c10] at H
              have LMc10 := Aside0.mk c10
              clear c10
              obtain ⟨y252, hy252⟩ : ∃ y_ : List ByteArray, y_ = (x3_1 ++ [t251]) := ⟨_, rfl⟩
              replace H : (hibernaclelaw35_apart.l0 k1 y252 l0 (l0.length : Int) (wrap64 (x11_1 + 1))) = some r := by first | (rw [hy252]; with_reducible exact H) | (have H2_ := (Option.bind_some _ _).symm.trans H; rw [hy252]; with_reducible exact H2_) | (have H2_ := (Option.bind_some _ _).symm.trans H; with_reducible exact H2_) | with_reducible exact H | (rw [hy252]; exact H) | exact H
              have Ny252 := Aside0.mk hy252
              clear hy252
              have H' := Aside0.mk H
              clear H
              have p249 : 0 ≤ (x11_1 : Int) := of_decide_eq_true (by first | (with_reducible assumption) | assumption)
              have q249 : x11_1 < (l0.length : Int) := of_decide_eq_true (by first | (with_reducible assumption) | assumption)
              obtain ⟨ad249, A249_0, c249_0, A249_1, c249_1, e249, hx249_0, hx249_1, hx249_2, hl249_0, hi249_0, hl249_1, hi249_1⟩ := at_T24 HR0.out x11_1 p249 q249
              cases e249
              replace hx249_0 := (HB.out.cell (World.block_lt_of_cell? w _ hx249_0)).trans hx249_0
              replace hx249_1 := (HB.out.cell (World.block_lt_of_cell? w _ hx249_1)).trans hx249_1
              replace hx249_2 := (HB.out.cell (World.block_lt_of_cell? w _ hx249_2)).trans hx249_2
              have HR249_0 := Aside0.mk hi249_0
              have HC249_0 := Aside0.mk hl249_0
              clear hi249_0 hl249_0
              have HR249_1 := Aside0.mk hi249_1
              have HC249_1 := Aside0.mk hl249_1
              clear hi249_1 hl249_1
              replace p249 := eq_true p249
              replace q249 := eq_true q249
              go_wp2_with (first | ((with_reducible refine gate_dst (N := 5) rfl ?_); refine box_event ?hg (N := 5) ?hd (cs := #[.slice none 0 0, .slice none 0 0, .string (⟨#[]⟩ : ByteArray)]) (t := 24) ?hr ?_; (case hd => rfl); (case hg => rfl); (case hr => first | (go_simp; done) | (go_simp; rfl)); intro gb250 hg w11 hbox hb; have n0_ := Aside0.mk (Kd.R_below (by (with_reducible repeat (first | apply Kd.R_alloc | apply Kd.R_drewN | apply Kd.R_drew)); exact HO_3.out) hb); have n1_ := Aside0.mk (below_step (by repeat (first | (with_reducible first | exact HB.out | apply below_alloc | apply pw_below_drewN | apply below_drew1) | exact HB.out)) hb); have n2_ := Aside0.mk (hbox); have n3_ := Aside0.mk ((by rw [hg]; exact (below_size (by repeat (first | (with_reducible first | exact HB.out | apply below_alloc | apply pw_below_drewN | apply below_drew1) | exact HB.out))) : w.heap.size ≤ gb250)); have n4_ := Aside0.mk ((by rw [hg]; exact (below_size (by repeat (first | (with_reducible first | exact HB.out | apply below_alloc | apply pw_below_drewN | apply below_drew1) | exact HB.out))) : w.heap.size ≤ gb250)); clear HO_3; clear HB; have HO_3 := n0_; have HB := n1_; have BK250 := n2_; have GW250 := n3_; have GE250 := n4_; clear n0_ n1_ n2_ n3_ n4_; clear hb hbox hg; have hcz12_0 : w11.cell? ⟨gb250, 0, none⟩ = some (.slice none 0 0) := (blk_cell BK250.out 0).trans rfl; have hcz12_1 : w11.cell? ⟨gb250, 1, none⟩ = some (.slice none 0 0) := (blk_cell BK250.out 1).trans rfl; have hcz12_2 : w11.cell? ⟨gb250, 2, none⟩ = some (.string (⟨#[]⟩ : ByteArray)) := (blk_cell BK250.out 2).trans rfl; have hfz12_0 := blk_frozen BK250.out 0; have hfz12_1 := blk_frozen BK250.out 1; have hfz12_2 := blk_frozen BK250.out 2) | ((with_reducible refine gate_callee (f := 28) rfl ?_); refine goesL_ (some 17) rfl rfl Try.func28 (by kernel_rfl) rfl #[.agg #[.slice A249_0 ((rd_T24 l0 x11_1).f0).length c249_0, .slice A249_1 ((rd_T24 l0 x11_1).f1).length c249_1, .string ((rd_T24 l0 x11_1).f2)]] rfl (by (try simp only [List.map_toArray, List.map_cons, List.map_nil]); first | done | rfl | (simp only [List.length_drop, List.length_take]; rfl)) ?_; (with_reducible refine (hibernacleref32_Bytes.calls k1 _ _ ((rd_T24 l0 x11_1).f0) _ _ ((rd_T24 l0 x11_1).f1) ((rd_T24 l0 x11_1).f2) t251 _ ?side1 ?side2 ?side3 ?side4 A9.out).mono ?_); (case side1 => exact Kd.C_below HR249_0.out (by repeat (first | (with_reducible first | exact HB.out | apply below_alloc | apply pw_below_drewN | apply below_drew1 | refine below_set ?_ GE250.out) | exact HB.out))); (case side2 => exact HC249_0.out); (case side3 => exact Kd.C_below HR249_1.out (by repeat (first | (with_reducible first | exact HB.out | apply below_alloc | apply pw_below_drewN | apply below_drew1 | refine below_set ?_ GE250.out) | exact HB.out))); (case side4 => exact HC249_1.out); rintro e w13 ⟨rfl, hb⟩; refine ⟨_, rfl, ?_⟩; have n0_ := Aside0.mk (Kd.R_below (by (with_reducible repeat (first | apply Kd.R_alloc | apply Kd.R_drewN | apply Kd.R_drew)); exact (Kd.R_mono (Kd.R_far (p := ⟨gb250, 2, none⟩) (Kd.R_far (p := ⟨gb250, 1, none⟩) (Kd.R_far (p := ⟨gb250, 0, none⟩) (Kd.R_types HO_3.out BK250.out (by decide)) (fun _ hk => hk.2) (.slice A249_0 ((rd_T24 l0 x11_1).f0).length c249_0)) (fun _ hk => hk.2) (.slice A249_1 ((rd_T24 l0 x11_1).f1).length c249_1)) (fun _ hk => hk.2) (.string ((rd_T24 l0 x11_1).f2))) (fun _ h_ => h_.1))) hb); have n1_ := Aside0.mk (blk_below (g := gb250) (o := .cells #[.slice A249_0 ((rd_T24 l0 x11_1).f0).length c249_0, .slice A249_1 ((rd_T24 l0 x11_1).f1).length c249_1, .string ((rd_T24 l0 x11_1).f2)] 24 (0, 0)) (by (with_reducible repeat (first | refine blk_drewN ?_ _ | refine blk_drew ?_ | refine blk_alloc ?_ _)); refine blk_put (cs := #[.slice A249_0 ((rd_T24 l0 x11_1).f0).length c249_0, .slice A249_1 ((rd_T24 l0 x11_1).f1).length c249_1, .string (⟨#[]⟩ : ByteArray)]) ?_ 2 _ rfl; (with_reducible repeat (first | refine blk_drewN ?_ _ | refine blk_drew ?_ | refine blk_alloc ?_ _)); refine blk_put (cs := #[.slice A249_0 ((rd_T24 l0 x11_1).f0).length c249_0, .slice none 0 0, .string (⟨#[]⟩ : ByteArray)]) ?_ 1 _ rfl; (with_reducible repeat (first | refine blk_drewN ?_ _ | refine blk_drew ?_ | refine blk_alloc ?_ _)); refine blk_put (cs := #[.slice none 0 0, .slice none 0 0, .string (⟨#[]⟩ : ByteArray)]) ?_ 0 _ rfl; (with_reducible repeat (first | refine blk_drewN ?_ _ | refine blk_drew ?_ | refine blk_alloc ?_ _)); exact BK250.out) hb); have n2_ := Aside0.mk (below_step (by repeat (first | (with_reducible first | exact HB.out | apply below_alloc | apply pw_below_drewN | apply below_drew1 | refine below_set ?_ GE250.out) | exact HB.out)) hb); clear HO_3; clear BK250; clear HB; have HO_3 := n0_; have BK250 := n1_; have HB := n2_; clear n0_ n1_ n2_; (try clear hb); (try clear hb2); (try clear hk); (try clear hi)) | ((with_reducible refine gate_builtin (b := .append) (xs := #[.tmp 15, .tmp 18]) rfl ?_); at_builtin; refine Kd.R_append Kd.string (w0 := w) w.heap.size rfl (.tmp 15) (.tmp 18) 22 9 (.string ⟨#[]⟩) 16 rfl Try.underlying22 info9a rfl (by decide) (by omega) u3 x3_1 t251 [.string t251] (fun _ => True) (fun _ => False) rfl rfl ?aP (fun _ hk => hk.elim) ?aF ?aO ?aB ?aS ?aL ?_; (case aP => exact rfl); (case aB => exact (by repeat (first | (with_reducible first | exact HB.out | apply below_alloc | apply pw_below_drewN | apply below_drew1 | refine below_set ?_ GE250.out) | exact HB.out))); (case aF => exact (fun _ _ => trivial)); (case aO => exact (by (with_reducible repeat (first | apply Kd.R_alloc | apply Kd.R_drewN | apply Kd.R_drew)); exact HO_3.out)); (case aS => exact (below_size (by repeat (first | (with_reducible first | exact HB.out | apply below_alloc | apply pw_below_drewN | apply below_drew1 | refine below_set ?_ GE250.out) | exact HB.out)))); (case aL => have := LMc10.out; omega); intro v253 w14 ho hb hg hat; rw [← Ny252.out] at ho; have n0_ := Aside0.mk (blk_grown (g := gb250) (o := .cells #[.slice A249_0 ((rd_T24 l0 x11_1).f0).length c249_0, .slice A249_1 ((rd_T24 l0 x11_1).f1).length c249_1, .string ((rd_T24 l0 x11_1).f2)] 24 (0, 0)) (by (with_reducible repeat (first | refine blk_drewN ?_ _ | refine blk_drew ?_ | refine blk_alloc ?_ _)); exact BK250.out) hg (Kd.R_ne HO_3.out BK250.out (by decide))); have n1_ := Aside0.mk (hb); have n2_ := Aside0.mk (ho); clear BK250; clear HB; clear HO_3; have BK250 := n0_; have HB := n1_; have HO254 := n2_; clear n0_ n1_ n2_; clear ho hb hg hat))
              go_roundg k1
              case measure => have := HK1.out; omega
              case rel => exact ⟨(y252), (wrap64 (x11_1 + 1)), (by first | rfl | (simp; done) | (simp [*]; done)), H', ⟨by have := HK1.out; omega⟩, ⟨by (with_reducible repeat (first | apply Kd.R_alloc | apply Kd.R_drewN | apply Kd.R_drew)); exact HO254.out⟩, ⟨by repeat (first | (with_reducible first | exact HB.out | apply below_alloc | apply pw_below_drewN | apply below_drew1 | refine below_set ?_ GE250.out) | exact HB.out)⟩⟩
            · rw [if_neg c10] at H
              exact absurd H (by simp)
          · rw [if_neg c8] at H
            exact absurd H (by simp)
        · rw [if_neg c7] at H
          exact absurd H (by simp)
      · rw [if_neg c6] at H
        have c6b0 : decide (x11_1 < (l0.length : Int)) = false := decide_eq_false c6
        clear c6
        replace H := Option.bind_eq_some_iff.mp H
        obtain ⟨t255, A150, H⟩ := H
        replace H : (some t255) = some r := H
        have A15 := Aside0.mk A150
        clear A150
        obtain rfl := Option.some.inj H
        obtain ⟨Ao16, co16, eo16⟩ := Kd.R_slice HO_3.out
        subst eo16
        go_wp2_with (first | ((with_reducible refine gate_callee (f := 29) rfl ?_); refine goesL_ (some 22) rfl rfl Try.func29 (by kernel_rfl) rfl #[.slice Ao16 x3_1.length co16] rfl (by (try simp only [List.map_toArray, List.map_cons, List.map_nil]); first | done | rfl | (simp only [List.length_drop, List.length_take]; rfl)) ?_; (with_reducible refine (hibernacleref02_Apart.calls _ _ x3_1 t255 _ ?side1 ?side2 A15.out).mono ?_); (case side1 => repeat (first | exact (Kd.R_reads' HO_3.out).2.2 | (with_reducible refine Kd.C_alloc ?_ _) | (with_reducible refine Kd.C_drewN ?_ _) | (with_reducible refine Kd.C_drew ?_))); (case side2 => exact (Kd.R_reads' HO_3.out).2.1); rintro e w17 ⟨rfl, hb⟩; refine ⟨_, rfl, ?_⟩; have n0_ := Aside0.mk (Kd.R_below (by (with_reducible repeat (first | apply Kd.R_alloc | apply Kd.R_drewN | apply Kd.R_drew)); exact HO_3.out) hb); have n1_ := Aside0.mk (below_step (by repeat (first | (with_reducible first | exact HB.out | apply below_alloc | apply pw_below_drewN | apply below_drew1) | exact HB.out)) hb); clear HO_3; clear HB; have HO_3 := n0_; have HB := n1_; clear n0_ n1_; (try clear hb); (try clear hb2); (try clear hk); (try clear hi)))
        go_ret
        exact ⟨by first | rfl | (simp [errW_none, errW_some] <;> rfl) | (simp [*, errW_none, errW_some] <;> rfl), by repeat (first | (with_reducible first | exact HB.out | apply below_alloc | apply pw_below_drewN | apply below_drew1) | exact HB.out)⟩

end Go.Proofs.Ytoljjgabgdifbaa.H


namespace Go.Proofs.Ytoljjgabgdifbaa.H
open Go.RowKit Go.Proofs.YtoljjgabgdifbaaW.PrintWords Go.Proofs.YtoljjgabgdifbaaW.PrintLast Go.Proofs.YtoljjgabgdifbaaW.PrintMore
set_option linter.unusedVariables false
set_option linter.unusedSimpArgs false

theorem at_eq (x : List ByteArray) {i : Nat} (h : i < x.length) : at_ x i = x[i] := by simp [at_, List.getD_eq_getElem?_getD, List.getElem?_eq_getElem h]
theorem bytes_eq {a b : ByteArray} (h : a.toList = b.toList) : a = b := by
  rw [ByteArray.toList_eq, ByteArray.toList_eq] at h
  cases a
  cases b
  congr 1
  exact Array.toList_inj.1 h
theorem rdOf_nat (x : List ByteArray) (i : Nat) : rdOf ByteArray.empty x (i : Int) = at_ x i := rdOf_at x i
/-- Some texts of the one, the others of the other one. -/
theorem mid_step {x y : List ByteArray} {i : Nat} (hi : i < y.length) (hx : i < x.length) (h : at_ x i = at_ y i) : y.take i ++ x.drop i = y.take (i + 1) ++ x.drop (i + 1) := by
  rw [at_eq x hx, at_eq y hi] at h
  rw [List.drop_eq_getElem_cons hx, List.take_add_one, List.getElem?_eq_getElem hi, h]
  simp only [Option.toList_some, List.append_assoc, List.singleton_append]
theorem mid_set {x y : List ByteArray} {i : Nat} (hi : i < y.length) (hx : i < x.length) : (y.take i ++ x.drop i).set i (at_ y i) = y.take (i + 1) ++ x.drop (i + 1) := by
  rw [at_eq y hi, List.drop_eq_getElem_cons hx, List.take_add_one, List.getElem?_eq_getElem hi]
  rw [List.set_append_right _ _ (by rw [List.length_take]; omega)]
  have e : i - (y.take i).length = 0 := by rw [List.length_take]; omega
  rw [e]
  simp only [List.set_cons_zero, Option.toList_some, List.append_assoc, List.singleton_append]
theorem mid_app {x y : List ByteArray} {i : Nat} (hi : i < y.length) (hx : x.length ≤ i) : (y.take i ++ x.drop i) ++ [at_ y i] = y.take (i + 1) ++ x.drop (i + 1) := by
  rw [at_eq y hi, List.drop_of_length_le hx, List.drop_of_length_le (by omega), List.take_add_one, List.getElem?_eq_getElem hi]
  simp
theorem done_l0 (x y : List ByteArray) (hxy : x.length ≤ y.length) (hy : y.length ≤ 5864062014805) : ∀ (d i k : Nat), i + d = y.length → 2 * d + 1 < k →
    delta_done.l0 k (y.take i ++ x.drop i) (chg x y y.length) ((chg x y y.length).length : Int) ((chg x y i).length : Int) = some (y, 0)
  | 0, i, k, h, hk => by
    obtain ⟨k, rfl⟩ : ∃ m, k = m + 1 := ⟨k - 1, by omega⟩
    obtain rfl : i = y.length := by omega
    rw [delta_done.l0, if_neg (by omega), List.take_length, List.drop_of_length_le hxy, List.append_nil]
  | d + 1, i, k, h, hk => by
    have hi : i < y.length := by omega
    by_cases uo : unlike x y i = true
    · obtain ⟨k, rfl⟩ : ∃ m, k = m + 1 + 1 := ⟨k - 2, by omega⟩
      have ih := done_l0 x y hxy hy d (i + 1) k (by omega) (by omega)
      obtain ⟨cl, cg⟩ := chg_at hi uo
      have cn := chg_len x y y.length
      have el : ((chg x y (i + 1)).length : Int) = wrap64 (((chg x y i).length : Int) + 1) := by
        rw [chg, if_pos uo, List.length_append, List.length_singleton, wrap_succ (n := y.length) (by omega) hy]
      rw [el] at ih
      have er : rd_T36 (chg x y y.length) ((chg x y i).length : Int) = ⟨(i : Int), at_ y i⟩ := by simp [rd_T36, List.getD_eq_getElem?_getD, cg]
      have ln : (y.take i ++ x.drop i).length = max i x.length := by
        rw [List.length_append, List.length_take, List.length_drop]
        omega
      rw [delta_done.l0, if_pos (by omega), if_pos (by omega), if_pos (by omega), er]
      simp only []
      rw [if_neg (by omega), show decide ((i : Int) > ((y.take i ++ x.drop i).length : Int)) = false from by rw [ln]; simp; omega, delta_done.j1, if_neg (by simp)]
      by_cases c : x.length ≤ i
      · rw [if_pos (by rw [ln]; omega), if_pos (by rw [ln]; omega), mid_app hi c]
        exact ih
      · rw [if_neg (by rw [ln]; omega), if_pos (by omega), if_pos (by rw [ln]; omega), Int.toNat_natCast, mid_set hi (by omega)]
        exact ih
    · have ih := done_l0 x y hxy hy d (i + 1) k (by omega) (by omega)
      have hx : i < x.length := by
        simp [unlike] at uo
        omega
      have he : at_ x i = at_ y i := by
        simp [unlike] at uo
        exact bytes_eq uo.2
      rw [← mid_step hi hx he, chg, if_neg uo] at ih
      exact ih
theorem done_f (x y : List ByteArray) (hxy : x.length ≤ y.length) (hy : y.length ≤ 5864062014805) {k : Nat} (hk : 2 * y.length + 1 < k) : delta_done.f k x (chg x y y.length) = some (y, 0) := by
  unfold delta_done.f slices_Clone_string_string.f
  rw [if_pos (by omega), Option.bind_some]
  exact done_l0 x y hxy hy y.length 0 k (by omega) hk
theorem texts_l0 (x y : List ByteArray) (hl : x.length = y.length) (hy : y.length ≤ 5864062014805) : ∀ (d i k : Nat), i + d = y.length → d < k → x.take i = y.take i →
    ∃ r, hibernacleref35_texts.l0 k x y (i : Int) = some r ∧ (r = true ↔ x = y)
  | 0, i, k, h, hk, ht => by
    obtain ⟨k, rfl⟩ : ∃ m, k = m + 1 := ⟨k - 1, by omega⟩
    rw [hibernacleref35_texts.l0, if_neg (by omega)]
    rw [List.take_of_length_le (by omega), List.take_of_length_le (by omega)] at ht
    exact ⟨true, rfl, by simp [ht]⟩
  | d + 1, i, k, h, hk, ht => by
    obtain ⟨k, rfl⟩ : ∃ m, k = m + 1 := ⟨k - 1, by omega⟩
    have hi : i < y.length := by omega
    rw [hibernacleref35_texts.l0, if_pos (by omega), if_pos (by omega), if_pos (by omega), rdOf_nat, rdOf_nat, wrap_succ hi hy]
    by_cases e : (at_ x i).toList = (at_ y i).toList
    · rw [if_pos e]
      refine texts_l0 x y hl hy d (i + 1) k (by omega) (by omega) ?_
      have e2 := bytes_eq e
      rw [at_eq x (by omega), at_eq y hi] at e2
      rw [List.take_add_one, List.take_add_one, ht, List.getElem?_eq_getElem hi, List.getElem?_eq_getElem (show i < x.length by omega), e2]
    · rw [if_neg e]
      refine ⟨false, rfl, ?_⟩
      simp only [Bool.false_eq_true, false_iff]
      intro hxy
      rw [hxy] at e
      exact e rfl
theorem texts_f (x y : List ByteArray) (hy : y.length ≤ 5864062014805) {k : Nat} (hk : y.length < k) : ∃ r, hibernacleref35_texts.f k x y = some r ∧ (r = true ↔ x = y) := by
  unfold hibernacleref35_texts.f
  by_cases c : (x.length : Int) = (y.length : Int)
  · rw [if_pos c]
    exact texts_l0 x y (by omega) hy y.length 0 k (by omega) hk rfl
  · rw [if_neg c]
    exact ⟨false, rfl, by simp only [Bool.false_eq_true, false_iff]; intro h; rw [h] at c; exact c rfl⟩
theorem images_f (x y : S24) (h0 : y.f0.length ≤ 5864062014805) (h1 : y.f1.length ≤ 5864062014805) {k : Nat} (hk : 5864062014805 < k) : ∃ r, hibernacleref35_Images.f k x.f0 x.f1 x.f2 y.f0 y.f1 y.f2 = some r ∧ (r = true ↔ x = y) := by
  unfold hibernacleref35_Images.f
  obtain ⟨r0, e0, q0⟩ := texts_f x.f0 y.f0 h0 (k := k) (by omega)
  obtain ⟨r1, e1, q1⟩ := texts_f x.f1 y.f1 h1 (k := k) (by omega)
  by_cases c : x.f2.toList = y.f2.toList
  · rw [if_pos c, e0, Option.bind_some]
    have c2 := bytes_eq c
    by_cases d : r0 = true
    · rw [if_pos d, e1, Option.bind_some]
      refine ⟨r1, rfl, ?_⟩
      rw [q1]
      have d' := q0.1 d
      cases x
      cases y
      simp_all
    · rw [if_neg d]
      refine ⟨false, rfl, ?_⟩
      simp only [Bool.false_eq_true, false_iff]
      intro h
      rw [h] at q0
      exact d (q0.2 rfl)
  · rw [if_neg c]
    refine ⟨false, rfl, ?_⟩
    simp only [Bool.false_eq_true, false_iff]
    intro h
    rw [h] at c
    exact c rfl
/-- An image's bytes, as a text. -/
def imgB (x : S24) : ByteArray := ⟨(imageL x.f0 x.f1 x.f2).toArray⟩
def iSum (x : S24) : List Int := imgSum x.f0 x.f1 x.f2
theorem imgB_inj {x y : S24} (h : imgB x = imgB y) : x = y := by
  have e : imageL x.f0 x.f1 x.f2 = imageL y.f0 y.f1 y.f2 := by
    have := congrArg (fun b => b.data.toList) h
    simpa [imgB] using this
  obtain ⟨e0, e1, e2⟩ := imageL_inj e
  cases x
  cases y
  simp_all
/-- The image without anything. -/
def noth : S24 := ⟨[], [], ⟨#[]⟩⟩
theorem apt_inj {l : List S24} (h : Apt (l.map imgB) l.length) {i j : Nat} (hi : i < l.length) (hj : j < l.length) (he : iSum l[i] = iSum l[j]) : l[i] = l[j] := by
  have ea : ∀ i (hi : i < l.length), at_ (l.map imgB) i = imgB l[i] := fun i hi => by
    rw [at_eq _ (by rw [List.length_map]; exact hi), List.getElem_map]
  rcases Nat.lt_trichotomy i j with c | c | c
  · have := h j i c hj (by rw [ea i hi, ea j hj]; exact he.symm)
    rw [ea i hi, ea j hj] at this
    exact (imgB_inj (bytes_eq this)).symm
  · subst c; rfl
  · have := h i j c hi (by rw [ea i hi, ea j hj]; exact he)
    rw [ea i hi, ea j hj] at this
    exact imgB_inj (bytes_eq this)
theorem bytes_f' (x : S24) (h0 : x.f0.length ≤ 5864062014805) (h1 : x.f1.length ≤ 5864062014805) (hL : (imageL x.f0 x.f1 x.f2).length ≤ 140737488355328) {k : Nat} (hk : 281474976710656 ≤ k) : hibernacleref32_Bytes.f k x.f0 x.f1 x.f2 = some (imgB x) := by
  have hl := imageL_len x.f0 x.f1 x.f2
  unfold hibernacleref32_Bytes.f
  rw [row_f x.f0 h0 (by omega) (by omega), Option.bind_some, row_f x.f1 h1 (by omega) (by omega), Option.bind_some, show (⟨#[104, 105, 98, 105]⟩ : ByteArray) = hibi from rfl, row_f _ (by simp) hL (by simp; omega), Option.bind_some]
  rfl
theorem apart_l0 (l : List S24) (hl : l.length ≤ 1000) (hs : ∀ x ∈ l, x.f0.length ≤ 5864062014805 ∧ x.f1.length ≤ 5864062014805 ∧ (imageL x.f0 x.f1 x.f2).length ≤ 140737488355328) : ∀ (d i k : Nat), i + d = l.length → d + 281474976710656 < k →
    hibernaclelaw35_apart.l0 k (((noth :: l).map imgB).take (i + 1)) l (l.length : Int) (i : Int) = some (aptB ((noth :: l).map imgB))
  | 0, i, k, h, hk => by
    obtain ⟨k, rfl⟩ : ∃ m, k = m + 1 := ⟨k - 1, by omega⟩
    rw [hibernaclelaw35_apart.l0, if_neg (by omega), List.take_of_length_le (by rw [List.length_map, List.length_cons]; omega)]
    unfold hibernacleref02_Apart.f
    rw [if_pos (by simp), if_pos (by rw [List.length_map, List.length_cons]; omega), if_pos ?_, Option.bind_some]
    rw [List.all_eq_true]
    intro b hb
    rw [List.mem_map] at hb
    obtain ⟨x, hx, rfl⟩ := hb
    rw [decide_eq_true_iff]
    show (imageL x.f0 x.f1 x.f2).toArray.size ≤ _
    rw [List.size_toArray]
    rcases List.mem_cons.1 hx with rfl | hx
    · decide +kernel
    · exact (hs x hx).2.2
  | d + 1, i, k, h, hk => by
    obtain ⟨k, rfl⟩ : ∃ m, k = m + 1 := ⟨k - 1, by omega⟩
    have hi : i < l.length := by omega
    have er : rd_T24 l (i : Int) = l[i] := by simp [rd_T24, List.getD_eq_getElem?_getD, List.getElem?_eq_getElem hi]
    obtain ⟨s0, s1, s2⟩ := hs l[i] (List.getElem_mem hi)
    rw [hibernaclelaw35_apart.l0, if_pos (by omega), if_pos (by omega), if_pos (by omega), er, bytes_f' l[i] s0 s1 s2 (by omega), Option.bind_some, if_pos (by rw [List.length_take, List.length_map, List.length_cons]; omega), wrap_succ hi (by omega)]
    have et : ((noth :: l).map imgB).take (i + 1) ++ [imgB l[i]] = ((noth :: l).map imgB).take (i + 1 + 1) := by
      rw [List.take_add_one (i := i + 1)]
      simp [List.getElem?_eq_getElem hi]
    rw [et]
    exact apart_l0 l hl hs d (i + 1) k (by omega) (by omega)
theorem apart_f (l : List S24) (hl : l.length ≤ 1000) (hs : ∀ x ∈ l, x.f0.length ≤ 5864062014805 ∧ x.f1.length ≤ 5864062014805 ∧ (imageL x.f0 x.f1 x.f2).length ≤ 140737488355328) {k : Nat} (hk : l.length + 281474976710656 < k) :
    hibernaclelaw35_apart.f k l = some (aptB ((noth :: l).map imgB)) := by
  unfold hibernaclelaw35_apart.f
  have e := bytes_f' noth (by decide) (by decide) (by decide +kernel) (k := k) (by omega)
  rw [show hibernacleref32_Bytes.f k [] [] ⟨#[]⟩ = some (imgB noth) from e, Option.bind_some]
  exact apart_l0 l hl hs l.length 0 k (by omega) (by omega)
end Go.Proofs.Ytoljjgabgdifbaa.H


namespace Go.Proofs.Ytoljjgabgdifbaa.H
open Go.ChangeShapes Go.WideShapes Go.ChangeAt Go.RowKit Go.Joins
open Go.RowKit Go.Proofs.YtoljjgabgdifbaaW.PrintWords Go.Proofs.YtoljjgabgdifbaaW.PrintLast
set_option linter.unusedVariables false
set_option linter.unusedSimpArgs false

theorem laidOut : laidOutB Try.prog = true := by kernel_rfl
theorem cells24 : Try.prog.cellsOf 24 = 3 := by kernel_rfl
theorem cells9 : Try.prog.cellsOf 9 = 1 := by kernel_rfl
/-- What texts weigh: each letter one, each text one. -/
def tot : List ByteArray → Nat
  | [] => 0
  | s :: l => s.size + 1 + tot l
theorem tot_len : ∀ l : List ByteArray, l.length ≤ tot l
  | [] => Nat.le_refl _
  | s :: l => by
    have := tot_len l
    simp only [tot, List.length_cons]
    omega
theorem bulk_strs {H : Type} : ∀ l : List ByteArray, Rows.uptoBulkAll (strs (H := H) l) = tot l
  | [] => by simp [strs, Rows.uptoBulkAll, tot]
  | s :: l => by
    have := bulk_strs (H := H) l
    simp only [strs, List.map_cons, Rows.uptoBulkAll, Rows.uptoBulk, tot, Array.length_toList] at this ⊢
    rw [this]
    have : s.data.size = s.size := rfl
    omega
section
variable {H : Type} {enc : TypeId × Value → H} {W : World}
theorem open_texts {fuel : Nat} {v : Value} {y : DataW H × List MemPlace} (h : DataW.trod enc Try.prog W 0 (fun _ => true) true fuel 22 [v] = some y) :
    ∃ (A : Option Addr) (c : Nat) (l : List ByteArray), v = .slice A l.length c ∧ Kd.C Kd.string W A l.length l ∧ l.length ≤ c ∧ tot l ≤ Rows.uptoBulk y.1 := by
  rcases open_strings Try.underlying22 Try.underlying9 cells9 h with ⟨e, hx⟩ | ⟨a, len, cap, ss, e, _, hl, hm, hz, hx, hcell, hsz⟩
  · simp only [List.cons.injEq, and_true] at e
    subst hx
    exact ⟨none, 0, [], e, Kd.C_nil _ _, Nat.le_refl _, by simp [tot]⟩
  · simp only [List.cons.injEq, and_true] at e
    rw [if_pos rfl] at hz
    have ht : (ss.take len).length = len := by rw [List.length_take]; omega
    have hmm : maxLen ≤ 9223372036854775807 := by decide
    refine ⟨some a, cap, ss.take len, by rw [ht]; exact e, ?_, by omega, ?_⟩
    · refine Kd.C_of_reads (d := ByteArray.empty) ⟨rfl, by omega, fun _ => ⟨a, rfl, fun j hj => ?_⟩⟩
      rw [hcell j (by omega)]
      rw [List.getD_eq_getElem?_getD, List.getD_eq_getElem?_getD, List.getElem?_take_of_lt (by omega)]
    · rw [hx]
      simp only [Rows.uptoBulk]
      rw [bulk_strs]
      omega
set_option maxRecDepth 100000 in
/-- An image that came in. -/
theorem open_image {r : Reach} {b0 : Nat} {v : Value} {d : DataW H} {p : List MemPlace} (hv : Value.okWide Try.prog W r b0 24 v) (h : DataW.Trod enc Try.prog W 0 (fun _ => true) true 24 v d p) :
    ∃ (A0 : Option Addr) (c0 : Nat) (A1 : Option Addr) (c1 : Nat) (x : S24), v = .agg #[.slice A0 x.f0.length c0, .slice A1 x.f1.length c1, .string x.f2] ∧
      Kd.C Kd.string W A0 x.f0.length x.f0 ∧ x.f0.length ≤ c0 ∧ Kd.C Kd.string W A1 x.f1.length x.f1 ∧ x.f1.length ≤ c1 ∧ tot x.f0 + tot x.f1 + x.f2.size ≤ Rows.uptoBulk d := by
  obtain ⟨v0, v1, v2, y0, y1, y2, n, rfl, rfl, rfl, h0, h1, h2⟩ := open_agg3 Try.underlying24 (by kernel_rfl) cells24 hv h
  obtain ⟨A0, c0, l0, rfl, k0, m0, b0⟩ := open_texts h0
  obtain ⟨A1, c1, l1, rfl, k1, m1, b1⟩ := open_texts h1
  obtain ⟨s, e, hs, _⟩ := DataW.trod_string Try.underlying9 h2
  simp only [List.cons.injEq, and_true] at e
  subst e
  refine ⟨A0, c0, A1, c1, ⟨l0, l1, s⟩, rfl, k0, m0, k1, m1, ?_⟩
  subst hs
  simp only [Rows.uptoBulk, Rows.uptoBulkAll, Array.length_toList]
  have : s.data.size = s.size := rfl
  omega
theorem trod_below {t : TypeId} {v : Value} {d : DataW H} {p : List MemPlace} (h : DataW.Trod enc Try.prog W 0 (fun _ => true) true t v d p) : ∀ x ∈ p, x.block < W.heap.size := by
  obtain ⟨m, hm⟩ := h
  exact DataW.trod_lt m _ _ _ hm
end
theorem lenB_le : ∀ (k n : Nat), n < k → (lenB n).length ≤ n + 1
  | k + 1, n, h => by
    rw [lenB]
    split
    · have := lenB_le k (n / 128) (by omega)
      rw [List.length_cons]
      omega
    · simp
theorem rowB_le : ∀ l : List ByteArray, (rowB l).length ≤ 2 * tot l
  | [] => Nat.le_refl _
  | s :: l => by
    have := rowB_le l
    have h1 := lenB_le (s.size + 1) s.size (by omega)
    simp only [rowB, List.length_append, Array.length_toList, tot]
    have : s.data.size = s.size := rfl
    omega
theorem imageL_le (f0 f1 : List ByteArray) (s : ByteArray) : (imageL f0 f1 s).length ≤ 4 * tot f0 + 4 * tot f1 + 2 * s.size + 16 := by
  have h := rowB_le [hibi, ⟨(rowB f0).toArray⟩, ⟨(rowB f1).toArray⟩, s]
  have h0 := rowB_le f0
  have h1 := rowB_le f1
  have ea : (ByteArray.mk (rowB f0).toArray).size = (rowB f0).length := by show (rowB f0).toArray.size = _; simp
  have eb : (ByteArray.mk (rowB f1).toArray).size = (rowB f1).length := by show (rowB f1).toArray.size = _; simp
  have e2 : hibi.size = 4 := rfl
  simp only [tot, ea, eb, e2] at h
  show (rowB [hibi, ⟨(rowB f0).toArray⟩, ⟨(rowB f1).toArray⟩, s]).length ≤ _
  omega
end Go.Proofs.Ytoljjgabgdifbaa.H


namespace Go.Proofs.Ytoljjgabgdifbaa.H
open Go.RowKit Go.Proofs.YtoljjgabgdifbaaW.PrintWords Go.Proofs.YtoljjgabgdifbaaW.PrintLast Go.Proofs.YtoljjgabgdifbaaW.PrintMore
set_option linter.unusedVariables false
set_option linter.unusedSimpArgs false

/-- Writes of the texts of which U holds, rising. -/
def cov (U : Nat → Bool) (y : List ByteArray) : Nat → List S36
  | 0 => []
  | i + 1 => if U i then cov U y i ++ [⟨(i : Int), at_ y i⟩] else cov U y i
theorem chg_cov (x y : List ByteArray) : ∀ i, chg x y i = cov (unlike x y) y i
  | 0 => rfl
  | i + 1 => by rw [chg, cov, chg_cov x y i]
theorem cov_len (U : Nat → Bool) (y : List ByteArray) : ∀ i, (cov U y i).length ≤ i
  | 0 => Nat.le_refl _
  | i + 1 => by
    have := cov_len U y i
    rw [cov]
    split
    · rw [List.length_append, List.length_singleton]; omega
    · omega
theorem cov_pre (U : Nat → Bool) (y : List ByteArray) (i : Nat) : ∀ d, ∃ r, cov U y (i + d) = cov U y i ++ r
  | 0 => ⟨[], by simp⟩
  | d + 1 => by
    obtain ⟨r, h⟩ := cov_pre U y i d
    rw [← Nat.add_assoc, cov]
    split
    · exact ⟨r ++ [⟨((i + d : Nat) : Int), at_ y (i + d)⟩], by rw [h, List.append_assoc]⟩
    · exact ⟨r, h⟩
theorem cov_at {U : Nat → Bool} {y : List ByteArray} {i n : Nat} (hi : i < n) (ho : U i = true) : (cov U y i).length < (cov U y n).length ∧ (cov U y n)[(cov U y i).length]? = some ⟨(i : Int), at_ y i⟩ := by
  obtain ⟨r, h⟩ := cov_pre U y (i + 1) (n - (i + 1))
  rw [show i + 1 + (n - (i + 1)) = n by omega, cov, if_pos ho] at h
  rw [h]
  simp only [List.length_append, List.length_singleton]
  exact ⟨by omega, by simp⟩
theorem cov_map (U : Nat → Bool) (y : List ByteArray) : ∀ i, cov U y i = ((List.range i).filter U).map fun j => ⟨(j : Int), at_ y j⟩
  | 0 => rfl
  | i + 1 => by
    rw [cov, List.range_succ, List.filter_append, List.map_append, ← cov_map U y i]
    by_cases h : U i = true
    · simp [h]
    · simp [h]
theorem cov_done (U : Nat → Bool) (x y : List ByteArray) (hxy : x.length ≤ y.length) (hy : y.length ≤ 5864062014805) (hU : ∀ i, i < y.length → U i = false → i < x.length ∧ at_ x i = at_ y i) : ∀ (d i k : Nat), i + d = y.length → 2 * d + 1 < k →
    delta_done.l0 k (y.take i ++ x.drop i) (cov U y y.length) ((cov U y y.length).length : Int) ((cov U y i).length : Int) = some (y, 0)
  | 0, i, k, h, hk => by
    obtain ⟨k, rfl⟩ : ∃ m, k = m + 1 := ⟨k - 1, by omega⟩
    obtain rfl : i = y.length := by omega
    rw [delta_done.l0, if_neg (by omega), List.take_length, List.drop_of_length_le hxy, List.append_nil]
  | d + 1, i, k, h, hk => by
    have hi : i < y.length := by omega
    by_cases uo : U i = true
    · obtain ⟨k, rfl⟩ : ∃ m, k = m + 1 + 1 := ⟨k - 2, by omega⟩
      have ih := cov_done U x y hxy hy hU d (i + 1) k (by omega) (by omega)
      obtain ⟨cl, cg⟩ := cov_at (y := y) hi uo
      have cn := cov_len U y y.length
      have el : ((cov U y (i + 1)).length : Int) = wrap64 (((cov U y i).length : Int) + 1) := by
        rw [cov, if_pos uo, List.length_append, List.length_singleton, wrap_succ (n := y.length) (by omega) hy]
      rw [el] at ih
      have er : rd_T36 (cov U y y.length) ((cov U y i).length : Int) = ⟨(i : Int), at_ y i⟩ := by simp [rd_T36, List.getD_eq_getElem?_getD, cg]
      have ln : (y.take i ++ x.drop i).length = max i x.length := by
        rw [List.length_append, List.length_take, List.length_drop]
        omega
      rw [delta_done.l0, if_pos (by omega), if_pos (by omega), if_pos (by omega), er]
      simp only []
      rw [if_neg (by omega), show decide ((i : Int) > ((y.take i ++ x.drop i).length : Int)) = false from by rw [ln]; simp; omega, delta_done.j1, if_neg (by simp)]
      by_cases c : x.length ≤ i
      · rw [if_pos (by rw [ln]; omega), if_pos (by rw [ln]; omega), mid_app hi c]
        exact ih
      · rw [if_neg (by rw [ln]; omega), if_pos (by omega), if_pos (by rw [ln]; omega), Int.toNat_natCast, mid_set hi (by omega)]
        exact ih
    · have ih := cov_done U x y hxy hy hU d (i + 1) k (by omega) (by omega)
      obtain ⟨hx, he⟩ := hU i hi (by simpa using uo)
      rw [← mid_step hi hx he, cov, if_neg uo] at ih
      exact ih
theorem cov_f (U : Nat → Bool) (x y : List ByteArray) (hxy : x.length ≤ y.length) (hy : y.length ≤ 5864062014805) (hU : ∀ i, i < y.length → U i = false → i < x.length ∧ at_ x i = at_ y i) {k : Nat} (hk : 2 * y.length + 1 < k) : delta_done.f k x (cov U y y.length) = some (y, 0) := by
  unfold delta_done.f slices_Clone_string_string.f
  rw [if_pos (by omega), Option.bind_some]
  exact cov_done U x y hxy hy hU y.length 0 k (by omega) hk

/-! ### the numbers of the writes -/
theorem nsK_nodup (ws : List S36) : ∀ i, (nsK ws i).Nodup
  | 0 => List.nodup_nil
  | i + 1 => by
    have ih := nsK_nodup ws i
    rw [nsK]
    split
    · exact ih
    · rename_i h
      rw [List.nodup_append]
      refine ⟨ih, by simp, ?_⟩
      intro a ha b hb e
      rw [List.mem_singleton] at hb
      subst hb
      subst e
      exact h ha
theorem nsK_iff (ws : List S36) (y : Int) : ∀ i, y ∈ nsK ws i ↔ ∃ j : Nat, j < i ∧ (rd_T36 ws (j : Int)).f0 = y
  | 0 => by simp [nsK]
  | i + 1 => by
    have ih := nsK_iff ws y i
    have key : y ∈ nsK ws (i + 1) ↔ y ∈ nsK ws i ∨ y = (rd_T36 ws (i : Int)).f0 := by
      rw [nsK]
      split
      · rename_i h
        constructor
        · exact Or.inl
        · rintro (h2 | rfl)
          · exact h2
          · exact h
      · simp
    rw [key, ih]
    constructor
    · rintro (⟨j, hj, e⟩ | rfl)
      · exact ⟨j, by omega, e⟩
      · exact ⟨i, by omega, rfl⟩
    · rintro ⟨j, hj, e⟩
      by_cases h : j = i
      · subst h
        exact Or.inr e.symm
      · exact Or.inl ⟨j, by omega, e⟩
theorem lastK_wit (ws : List S36) (y : Int) (v : ByteArray) : ∀ i, lastK ws i y = some v → ∃ j : Nat, j < i ∧ rd_T36 ws (j : Int) = ⟨y, v⟩ ∧ ∀ m : Nat, j < m → m < i → (rd_T36 ws (m : Int)).f0 ≠ y
  | 0, h => by simp [lastK] at h
  | i + 1, h => by
    replace h : (if y = (rd_T36 ws (i : Int)).f0 then some (rd_T36 ws (i : Int)).f1 else lastK ws i y) = some v := h
    by_cases e : y = (rd_T36 ws (i : Int)).f0
    · rw [if_pos e] at h
      refine ⟨i, by omega, ?_, fun m h1 h2 => by omega⟩
      rw [e, ← Option.some.inj h]
    · rw [if_neg e] at h
      obtain ⟨j, hj, e1, e2⟩ := lastK_wit ws y v i h
      refine ⟨j, by omega, e1, fun m h1 h2 => ?_⟩
      by_cases c : m = i
      · subst c
        exact fun h => e h.symm
      · exact e2 m h1 (by omega)
theorem rd_app_left {l m : List S36} {j : Nat} (h : j < l.length) : rd_T36 (l ++ m) (j : Int) = rd_T36 l (j : Int) := by
  simp [rd_T36, List.getD_eq_getElem?_getD, List.getElem?_append_left h]
theorem rd_app_right {l m : List S36} {j : Nat} (h : l.length ≤ j) : rd_T36 (l ++ m) (j : Int) = rd_T36 m ((j - l.length : Nat) : Int) := by
  unfold rd_T36
  rw [Int.toNat_natCast, Int.toNat_natCast, List.getD_eq_getElem?_getD, List.getD_eq_getElem?_getD, List.getElem?_append_right h]
theorem rd_mem {l : List S36} {j : Nat} (h : j < l.length) : rd_T36 l (j : Int) ∈ l := by
  have : rd_T36 l (j : Int) = l[j] := by simp [rd_T36, List.getD_eq_getElem?_getD, List.getElem?_eq_getElem h]
  rw [this]
  exact List.getElem_mem h
theorem rd_of_mem {l : List S36} {x : S36} (h : x ∈ l) : ∃ j : Nat, j < l.length ∧ rd_T36 l (j : Int) = x := by
  obtain ⟨j, hj, e⟩ := List.getElem_of_mem h
  exact ⟨j, hj, by simp [rd_T36, List.getD_eq_getElem?_getD, List.getElem?_eq_getElem hj, e]⟩
theorem chg_mem {x y : List ByteArray} {n : Nat} {w : S36} : w ∈ chg x y n ↔ ∃ j, j < n ∧ unlike x y j = true ∧ w = ⟨(j : Int), at_ y j⟩ := by
  rw [chg_cov, cov_map]
  simp only [List.mem_map, List.mem_filter, List.mem_range]
  constructor
  · rintro ⟨j, ⟨h1, h2⟩, rfl⟩
    exact ⟨j, h1, h2, rfl⟩
  · rintro ⟨j, h1, h2, rfl⟩
    exact ⟨j, ⟨h1, h2⟩, rfl⟩
theorem sorted_ext {l m : List Int} (hl : l.Pairwise (· ≤ ·)) (hm : m.Pairwise (· ≤ ·)) (nl : l.Nodup) (nm : m.Nodup) (h : ∀ a, a ∈ l ↔ a ∈ m) : l = m :=
  List.Perm.eq_of_pairwise (fun a b _ _ h1 h2 => Int.le_antisymm h1 h2) hl hm ((List.perm_ext_iff_of_nodup nl nm).2 h)
theorem srt_mem (l : List Int) (a : Int) : a ∈ srt l ↔ a ∈ l := by
  unfold srt
  exact List.mem_mergeSort
theorem srt_sorted (l : List Int) : (srt l).Pairwise (· ≤ ·) := by
  have := List.pairwise_mergeSort (le := fun x y : Int => decide (x ≤ y)) (fun a b c h1 h2 => by simp at *; omega) (fun a b => by simp; omega) l
  exact this.imp (fun h => by simpa using h)
theorem srt_nodup {l : List Int} (h : l.Nodup) : (srt l).Nodup := (List.mergeSort_perm l _).nodup_iff.2 h
/-- What was written first, and what was written then. -/
def either (p b c : List ByteArray) (i : Nat) : Bool := (decide (i < b.length) && unlike p b i) || unlike b c i
theorem both_cov {p b c : List ByteArray} (hbc : b.length ≤ c.length) : bothL (chg p b b.length ++ chg b c c.length) = cov (either p b c) c c.length := by
  have hin : ∀ n : Int, n ∈ nsK (chg p b b.length ++ chg b c c.length) (chg p b b.length ++ chg b c c.length).length ↔ ∃ j : Nat, j < c.length ∧ either p b c j = true ∧ n = (j : Int) := by
    intro n
    rw [nsK_iff]
    constructor
    · rintro ⟨j, hj, rfl⟩
      have hm := rd_mem hj
      rw [List.mem_append, chg_mem, chg_mem] at hm
      rcases hm with ⟨i, h1, h2, e⟩ | ⟨i, h1, h2, e⟩
      · exact ⟨i, by omega, by simp [either, h1, h2], by rw [e]⟩
      · exact ⟨i, h1, by simp [either, h2], by rw [e]⟩
    · rintro ⟨j, hj, he, rfl⟩
      have hm : ∃ v, (⟨(j : Int), v⟩ : S36) ∈ chg p b b.length ++ chg b c c.length := by
        simp only [either, Bool.or_eq_true, Bool.and_eq_true, decide_eq_true_eq] at he
        rcases he with ⟨h1, h2⟩ | h2
        · exact ⟨at_ b j, List.mem_append_left _ (chg_mem.2 ⟨j, h1, h2, rfl⟩)⟩
        · exact ⟨at_ c j, List.mem_append_right _ (chg_mem.2 ⟨j, hj, h2, rfl⟩)⟩
      obtain ⟨v, hv⟩ := hm
      obtain ⟨i, hi, e⟩ := rd_of_mem hv
      exact ⟨i, hi, by rw [e]⟩
  have hval : ∀ n : Int, n ∈ nsK (chg p b b.length ++ chg b c c.length) (chg p b b.length ++ chg b c c.length).length → (lastK (chg p b b.length ++ chg b c c.length) (chg p b b.length ++ chg b c c.length).length n).getD ByteArray.empty = at_ c n.toNat := by
    intro n hn
    have hs := lastK_isSome (chg p b b.length ++ chg b c c.length) n (chg p b b.length ++ chg b c c.length).length
    rw [decide_eq_true hn] at hs
    obtain ⟨v, hv⟩ := Option.isSome_iff_exists.1 hs
    rw [hv, Option.getD_some]
    obtain ⟨j, hj, e1, e2⟩ := lastK_wit _ _ _ _ hv
    by_cases c1 : j < (chg p b b.length).length
    · rw [rd_app_left c1] at e1
      have hm := rd_mem c1
      rw [e1, chg_mem] at hm
      obtain ⟨i, h1, h2, e⟩ := hm
      injection e with ea eb
      subst ea
      subst eb
      rw [Int.toNat_natCast]
      by_cases un : unlike b c i = true
      · exfalso
        have hm2 : (⟨(i : Int), at_ c i⟩ : S36) ∈ chg b c c.length := chg_mem.2 ⟨i, by omega, un, rfl⟩
        obtain ⟨i2, hi2, er⟩ := rd_of_mem hm2
        refine e2 ((chg p b b.length).length + i2) (by omega) (by rw [List.length_append]; omega) ?_
        rw [rd_app_right (by omega), show (chg p b b.length).length + i2 - (chg p b b.length).length = i2 by omega, er]
      · simp [unlike] at un
        exact bytes_eq un.2
    · rw [rd_app_right (by omega)] at e1
      have hm := rd_mem (l := chg b c c.length) (j := j - (chg p b b.length).length) (by rw [List.length_append] at hj; omega)
      rw [e1, chg_mem] at hm
      obtain ⟨i, h1, h2, e⟩ := hm
      injection e with ea eb
      rw [ea, eb, Int.toNat_natCast]
  have hsr : srt (nsK (chg p b b.length ++ chg b c c.length) (chg p b b.length ++ chg b c c.length).length) = ((List.range c.length).filter (either p b c)).map fun j : Nat => (j : Int) := by
    refine sorted_ext (srt_sorted _) ?_ (srt_nodup (nsK_nodup _ _)) ?_ ?_
    · rw [List.pairwise_map]
      exact (List.Pairwise.filter _ List.pairwise_lt_range).imp (fun h => by omega)
    · rw [List.nodup_iff_pairwise_ne, List.pairwise_map]
      exact (List.Pairwise.filter _ List.pairwise_lt_range).imp (fun h => by omega)
    · intro a
      rw [srt_mem, hin]
      simp only [List.mem_map, List.mem_filter, List.mem_range]
      constructor
      · rintro ⟨j, h1, h2, rfl⟩
        exact ⟨j, ⟨h1, h2⟩, rfl⟩
      · rintro ⟨j, ⟨h1, h2⟩, rfl⟩
        exact ⟨j, h1, h2, rfl⟩
  rw [cov_map]
  unfold bothL
  rw [show (srt (nsK (chg p b b.length ++ chg b c c.length) (chg p b b.length ++ chg b c c.length).length)).map (fun n => (⟨n, (lastK (chg p b b.length ++ chg b c c.length) (chg p b b.length ++ chg b c c.length).length n).getD ByteArray.empty⟩ : S36)) = (srt (nsK (chg p b b.length ++ chg b c c.length) (chg p b b.length ++ chg b c c.length).length)).map (fun n => (⟨n, at_ c n.toNat⟩ : S36)) from List.map_congr_left (fun n hn => by rw [hval n ((srt_mem _ _).1 hn)])]
  rw [hsr, List.map_map]
  refine List.map_congr_left (fun j _ => ?_)
  simp
/-- Writes joined, done. -/
theorem both_f {p b c : List ByteArray} (hpb : p.length ≤ b.length) (hbc : b.length ≤ c.length) (hc : c.length ≤ 5864062014805) {k : Nat} (hk : 2 * c.length + 1 < k) : delta_done.f k p (bothL (chg p b b.length ++ chg b c c.length)) = some (c, 0) := by
  rw [both_cov hbc]
  refine cov_f _ p c (by omega) hc (fun i hi hu => ?_) hk
  simp only [either, Bool.or_eq_false_iff, Bool.and_eq_false_iff, decide_eq_false_iff_not] at hu
  obtain ⟨h1, h2⟩ := hu
  simp [unlike] at h2
  rcases h1 with h1 | h1
  · omega
  · simp [unlike] at h1
    exact ⟨by omega, bytes_eq (h1.2.trans h2.2)⟩

/-! ### how great images are -/
def wt : List ByteArray → Nat
  | [] => 0
  | s :: l => 4 + s.size + wt l
theorem wt_tot : ∀ l : List ByteArray, wt l ≤ 4 * tot l
  | [] => Nat.le_refl _
  | s :: l => by
    have := wt_tot l
    simp only [wt, tot]
    omega
theorem wt_len : ∀ l : List ByteArray, 4 * l.length ≤ wt l
  | [] => Nat.le_refl _
  | s :: l => by
    have := wt_len l
    simp only [wt, List.length_cons]
    omega
theorem wt_at : ∀ (l : List ByteArray) (i : Nat), (at_ l i).size ≤ wt l
  | [], i => by simp [at_]
  | s :: l, 0 => by simp [at_, wt]; omega
  | s :: l, i + 1 => by
    have := wt_at l i
    simp only [wt]
    have e : at_ (s :: l) (i + 1) = at_ l i := by simp [at_]
    rw [e]
    omega
theorem wrap_nat {n : Nat} (h : n < 9223372036854775808) : wrap64 (n : Int) = (n : Int) := by
  rw [← i64_w, IntWalk.i64_in _ (by omega)]
theorem size_l0 (l : List ByteArray) (hl : l.length ≤ 5864062014805) : ∀ (k i n : Nat) (r : Int), i ≤ l.length → n + wt (l.drop i) < 4611686018427387904 → hibernaclelaw35_size.l0 k (n : Int) l (l.length : Int) (i : Int) = some r → r = ((n + wt (l.drop i) : Nat) : Int)
  | 0, i, n, r, hi, hn, h => by simp [hibernaclelaw35_size.l0] at h
  | k + 1, i, n, r, hi, hn, h => by
    by_cases c : i < l.length
    · have ed := List.drop_eq_getElem_cons c
      rw [ed] at hn ⊢
      simp only [wt] at hn ⊢
      rw [hibernaclelaw35_size.l0, if_pos (by omega), if_pos (by omega), if_pos (by omega), wrap_succ c hl, rdOf_nat, at_eq _ c] at h
      rw [show (4 : Int) + ((l[i]).size : Int) = ((4 + (l[i]).size : Nat) : Int) by omega, wrap_nat (by omega), show (n : Int) + ((4 + (l[i]).size : Nat) : Int) = ((n + (4 + (l[i]).size) : Nat) : Int) by omega, wrap_nat (by omega)] at h
      have := size_l0 l hl k (i + 1) _ r (by omega) (by omega) h
      rw [this]
      omega
    · obtain rfl : i = l.length := by omega
      rw [hibernaclelaw35_size.l0, if_neg (by omega)] at h
      rw [List.drop_length]
      simp only [wt]
      rw [← Option.some.inj h]
      omega
theorem size_f {l : List ByteArray} {k : Nat} {r : Int} (hl : l.length ≤ 5864062014805) (hn : wt l < 4611686018427387904) (h : hibernaclelaw35_size.f k l = some r) : r = ((wt l : Nat) : Int) := by
  have := size_l0 l hl k 0 0 r (by omega) (by simpa using hn) h
  simpa using this
def wtI (x : S24) : Nat := wt x.f0 + wt x.f1 + x.f2.size
def wtS : List S24 → Nat
  | [] => 0
  | x :: l => wtI x + wtS l
theorem great_l0 (l : List S24) (hl : l.length ≤ 5864062014805) (hm : ∀ x ∈ l, x.f0.length ≤ 5864062014805 ∧ x.f1.length ≤ 5864062014805) : ∀ (k i n : Nat) (r : Bool), i ≤ l.length → n + wtS (l.drop i) < 1152921504606846976 → hibernaclelaw35_great.l0 k (n : Int) l (l.length : Int) (i : Int) = some r → r = decide (n + wtS (l.drop i) > 4000)
  | 0, i, n, r, hi, hn, h => by simp [hibernaclelaw35_great.l0] at h
  | k + 1, i, n, r, hi, hn, h => by
    by_cases c : i < l.length
    · have ed := List.drop_eq_getElem_cons c
      have em : rd_T24 l (i : Int) = l[i] := by simp [rd_T24, List.getD_eq_getElem?_getD, List.getElem?_eq_getElem c]
      obtain ⟨m0, m1⟩ := hm l[i] (List.getElem_mem c)
      rw [ed] at hn ⊢
      simp only [wtS, wtI] at hn ⊢
      rw [hibernaclelaw35_great.l0, if_pos (by omega), if_pos (by omega), if_pos (by omega), wrap_succ c hl, em] at h
      obtain ⟨r0, e0, h⟩ := Option.bind_eq_some_iff.1 h
      obtain ⟨r1, e1, h⟩ := Option.bind_eq_some_iff.1 h
      rw [size_f m0 (by omega) e0, size_f m1 (by omega) e1] at h
      rw [show ((wt (l[i]).f0 : Nat) : Int) + ((wt (l[i]).f1 : Nat) : Int) = ((wt (l[i]).f0 + wt (l[i]).f1 : Nat) : Int) by omega, wrap_nat (by omega), show ((wt (l[i]).f0 + wt (l[i]).f1 : Nat) : Int) + ((l[i]).f2.size : Int) = ((wt (l[i]).f0 + wt (l[i]).f1 + (l[i]).f2.size : Nat) : Int) by omega, wrap_nat (by omega), show (n : Int) + ((wt (l[i]).f0 + wt (l[i]).f1 + (l[i]).f2.size : Nat) : Int) = ((n + (wt (l[i]).f0 + wt (l[i]).f1 + (l[i]).f2.size) : Nat) : Int) by omega, wrap_nat (by omega)] at h
      have := great_l0 l hl hm k (i + 1) _ r (by omega) (by omega) h
      rw [this]
      congr 1
      exact propext (by omega)
    · obtain rfl : i = l.length := by omega
      rw [hibernaclelaw35_great.l0, if_neg (by omega)] at h
      rw [List.drop_length]
      simp only [wtS]
      rw [← Option.some.inj h]
      congr 1
      exact propext (by omega)
theorem great_no {l : List S24} {k : Nat} (hl : l.length ≤ 5864062014805) (hm : ∀ x ∈ l, x.f0.length ≤ 5864062014805 ∧ x.f1.length ≤ 5864062014805) (hn : wtS l < 1152921504606846976) (h : hibernaclelaw35_great.f k l = some false) : wtS l ≤ 4000 := by
  have := great_l0 l hl hm k 0 0 false (by omega) (by simpa using hn) h
  simp at this
  omega
theorem wtI_tot (x : S24) : wtI x ≤ 4 * (tot x.f0 + tot x.f1 + x.f2.size) := by
  have := wt_tot x.f0
  have := wt_tot x.f1
  unfold wtI
  omega
/-- Writes' numbers may be, and their texts are not too great. -/
theorem chg_ok {p b b' c : List ByteArray} (hb : b.length ≤ 5864062014805) (hc : c.length ≤ 5864062014805) (wb : wt b ≤ 4000) (wc : wt c ≤ 4000) (j : Nat) :
    (Lit.int .i64 (rd_T36 (chg p b b.length ++ chg b' c c.length) (j : Int)).f0).wf = true ∧ (rd_T36 (chg p b b.length ++ chg b' c c.length) (j : Int)).f1.size ≤ maxLen := by
  have hmx : 4000 ≤ maxLen := by decide
  have key : ∀ (i : Nat) (v : ByteArray), i ≤ 5864062014805 → v.size ≤ 4000 → (Lit.int .i64 (⟨(i : Int), v⟩ : S36).f0).wf = true ∧ (⟨(i : Int), v⟩ : S36).f1.size ≤ maxLen := by
    intro i v hi hv
    have h1 := wf_wrap .i64 (i : Int)
    rw [IntWalk.i64_in _ (by omega)] at h1
    exact ⟨h1, Nat.le_trans hv hmx⟩
  by_cases hj : j < (chg p b b.length ++ chg b' c c.length).length
  · have hm := rd_mem hj
    rw [List.mem_append, chg_mem, chg_mem] at hm
    rcases hm with ⟨i, h1, h2, e⟩ | ⟨i, h1, h2, e⟩
    · rw [e]
      have := wt_at b i
      exact key i _ (by omega) (by omega)
    · rw [e]
      have := wt_at c i
      exact key i _ (by omega) (by omega)
  · have e : rd_T36 (chg p b b.length ++ chg b' c c.length) (j : Int) = z36 := by
      unfold rd_T36
      rw [Int.toNat_natCast, List.getD_eq_getElem?_getD, List.getElem?_eq_none (by omega), Option.getD_none]
    rw [e]
    exact ⟨by decide, by decide⟩
end Go.Proofs.Ytoljjgabgdifbaa.H


namespace Go.Proofs.Ytoljjgabgdifbaa.H
open Go.RowKit Go.Proofs.YtoljjgabgdifbaaW.PrintWords Go.Proofs.YtoljjgabgdifbaaW.PrintLast Go.Proofs.YtoljjgabgdifbaaW.PrintMore
set_option linter.unusedVariables false
set_option linter.unusedSimpArgs false

theorem Kd.R_C {w : World} {base : Nat} {A : Option Addr} {c : Nat} {r : List S36} (h : Kd.R k36 36 w base (fun _ => True) (.slice A r.length c) r) : Kd.C k36 w A r.length r := (Kd.R_reads' h).2.2
theorem Kd.R_cap {w : World} {base : Nat} {A : Option Addr} {c : Nat} {r : List S36} (h : Kd.R k36 36 w base (fun _ => True) (.slice A r.length c) r) : r.length ≤ c := (Kd.R_reads' h).2.1
end Go.Proofs.Ytoljjgabgdifbaa.H


namespace Go.Proofs.Ytoljjgabgdifbaa.H
open Go.RowKit Go.Proofs.YtoljjgabgdifbaaW.PrintWords Go.Proofs.YtoljjgabgdifbaaW.PrintLast Go.Proofs.YtoljjgabgdifbaaW.PrintMore
set_option linter.unusedVariables false
set_option linter.unusedSimpArgs false

theorem loadAt_row {w : World} {g : Nat} {t ty : TypeId} {cs : Array Value} {d : TypeDesc} (hg : Blk w g t cs) (hu : Try.prog.underlying ty = some d) (hd : d.isRow = true) (hi : (Try.prog.info? ty).map (·.size) = some cs.size) :
    (Instr.loadAt ty (.pointer (some ⟨g, 0, none⟩))).run Try.prog w = .ok (.agg cs) w := by
  have z := run_loadAt_mid (P := Try.prog) w g 0 ty cs.toList d (fun j v hv => by rw [Nat.zero_add, hg.cell, ← hv]; simp) hu hd (by rw [Array.length_toList]; exact hi)
  simpa using z
theorem imgs3 {w : World} {g : Nat} (A0 : Option Addr) (c0 : Nat) (A1 : Option Addr) (c1 : Nat) (a : S24) (P0 : Option Addr) (p0 : Nat) (P1 : Option Addr) (p1 : Nat) (b : S24) (Q0 : Option Addr) (q0 : Nat) (Q1 : Option Addr) (q1 : Nat) (c : S24)
    (hA0 : Kd.C Kd.string w A0 a.f0.length a.f0) (ha0 : a.f0.length ≤ c0) (hA1 : Kd.C Kd.string w A1 a.f1.length a.f1) (ha1 : a.f1.length ≤ c1)
    (hP0 : Kd.C Kd.string w P0 b.f0.length b.f0) (hp0 : b.f0.length ≤ p0) (hP1 : Kd.C Kd.string w P1 b.f1.length b.f1) (hp1 : b.f1.length ≤ p1)
    (hQ0 : Kd.C Kd.string w Q0 c.f0.length c.f0) (hq0 : c.f0.length ≤ q0) (hQ1 : Kd.C Kd.string w Q1 c.f1.length c.f1) (hq1 : c.f1.length ≤ q1)
    (h : Blk w g 24 #[.slice A0 a.f0.length c0, .slice A1 a.f1.length c1, .string a.f2, .slice P0 b.f0.length p0, .slice P1 b.f1.length p1, .string b.f2, .slice Q0 c.f0.length q0, .slice Q1 c.f1.length q1, .string c.f2]) : Kd.C k24 w (some ⟨g, 0, none⟩) [a, b, c].length [a, b, c] := by
  refine ⟨rfl, by simp, fun _ => ⟨_, rfl, fun j p hp => ?_⟩⟩
  match j, hp with
  | 0, hp =>
    obtain rfl : a = p := by simpa using hp
    refine ⟨[.slice A0 a.f0.length c0, .slice A1 a.f1.length c1, .string a.f2], rfl, k24_mk w a ha0 hA0 ha1 hA1, fun i u hu => ?_⟩
    rw [add_plain, h.cell]
    match i, hu with
    | 0, hu => exact hu
    | 1, hu => exact hu
    | 2, hu => exact hu
    | i + 3, hu => simp at hu
  | 1, hp =>
    obtain rfl : b = p := by simpa using hp
    refine ⟨[.slice P0 b.f0.length p0, .slice P1 b.f1.length p1, .string b.f2], rfl, k24_mk w b hp0 hP0 hp1 hP1, fun i u hu => ?_⟩
    rw [add_plain, h.cell]
    match i, hu with
    | 0, hu => exact hu
    | 1, hu => exact hu
    | 2, hu => exact hu
    | i + 3, hu => simp at hu
  | 2, hp =>
    obtain rfl : c = p := by simpa using hp
    refine ⟨[.slice Q0 c.f0.length q0, .slice Q1 c.f1.length q1, .string c.f2], rfl, k24_mk w c hq0 hQ0 hq1 hQ1, fun i u hu => ?_⟩
    rw [add_plain, h.cell]
    match i, hu with
    | 0, hu => exact hu
    | 1, hu => exact hu
    | 2, hu => exact hu
    | i + 3, hu => simp at hu
  | j + 3, hp => simp at hp

end Go.Proofs.Ytoljjgabgdifbaa.H

