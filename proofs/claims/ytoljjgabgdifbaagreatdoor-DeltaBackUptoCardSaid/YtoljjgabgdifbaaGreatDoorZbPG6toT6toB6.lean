/- Parts of the proof: G6, T4, H16, J6, R7, T6. The plain law: a row's texts are read of its bytes; a number is read of its decimal text. Writes, read of a row of rows. -/
import Derived.Test.YtoljjgabgdifbaaGreatDoorZbPJ5toT3
import Derived.Test.YtoljjgabgdifbaaGreatDoorZbPG2
import Derived.Test.YtoljjgabgdifbaaGreatDoorZbPR3toR5toPG5
import Derived.Test.YtoljjgabgdifbaaGreatDoorZbPH13toJ2toPJ3toR1
import Derived.Test.YtoljjgabgdifbaaGreatDoorRows
import Derived.Test.YtoljjgabgdifbaaGreatDoorZbPH10toH11
import Derived.WalkKit
import Derived.ProofKit
import Derived.OpenShut
import Derived.ShutString
import Derived.ChangeOld
import Derived.Below
import Derived.SizedLaws
import Derived.JoinedCond
import Derived.SliceStrings
import Derived.Lib.SmallJoins
import Derived.Test.YtoljjgabgdifbaaGreatDoorZbPT5toJ4toB5

namespace Go.Proofs.YtoljjgabgdifbaaGreatDoor.H
open Go.RowKit Go.Proofs.YtoljjgabgdifbaaGreatDoorW.PrintWords Go.Proofs.YtoljjgabgdifbaaGreatDoorW.PrintLast Go.Proofs.YtoljjgabgdifbaaGreatDoorW.PrintMore
attribute [local go_sem] max2_int min2_int max_two min_two max_three min_three max_four min_four
set_option linter.unusedVariables false
set_option linter.unusedSimpArgs false
theorem info9a : (Tryz.prog.info? 9).map (fun i => (i.zero, i.size, i.bytes)) = some (some (.string ⟨#[]⟩), 1, 16) := by kernel_rfl
/-! ### hibernacleref02_Apart: function 29 -/
noncomputable def hibernacleref02_Apart.f (l0 : List ByteArray) : Option Bool := if 0 < l0.length then (if l0.length ≤ 1048576 then (if (l0.all fun s => decide (s.size ≤ 140737488355328)) = true then some (aptB l0) else none) else none) else none
theorem hibernacleref02_Apart.calls (A0 : Option Addr) (c0 : Nat) (l0 : List ByteArray) (r : Bool) (w : World) (hr0 : Kd.C Kd.string w A0 l0.length l0) (hc0 : l0.length ≤ c0) (h : hibernacleref02_Apart.f l0 = some r) :
    Calls Tryz.prog 14 #[.slice A0 l0.length c0] w fun e w' => e = .returned (.bool r) ∧ Below w.heap.size w w' := by
  unfold hibernacleref02_Apart.f at h
  split at h
  case isFalse => cases h
  case isTrue h0 =>
  split at h
  case isFalse => cases h
  case isTrue h1 =>
  split at h
  case isFalse => cases h
  case isTrue h2 =>
  cases h
  refine rApart_calls A0 c0 l0 w hr0 hc0 h1 h0 (fun j => ?_)
  rcases Nat.lt_or_ge j l0.length with hj | hj
  · have e : at_ l0 j = l0[j] := by simp [at_, List.getD_eq_getElem?_getD, List.getElem?_eq_getElem hj]
    rw [e]
    simpa using List.all_eq_true.1 h2 l0[j] (List.getElem_mem hj)
  · have e : at_ l0 j = ByteArray.empty := by simp [at_, List.getD_eq_getElem?_getD, List.getElem?_eq_none hj]
    rw [e]
    decide

/-! ### hibernaclelaw35_apart: function 14 -/
noncomputable def hibernaclelaw35_apart.l0 : Nat → List ByteArray → List (S24) → Int → Int → Option (Bool)
  | 0, _, _, _, _ => none
  | k + 1, x3, x9, x10, x11 => if x11 < x10 then (if 0 ≤ x11 then (if x11 < (x9.length : Int) then ((hibernacleref32_Bytes.f k ((rd_T24 x9 x11).f0) ((rd_T24 x9 x11).f1) ((rd_T24 x9 x11).f2)).bind fun t251 => (if x3.length < 8796093022208 then (hibernaclelaw35_apart.l0 k (x3 ++ [t251]) x9 x10 (wrap64 (x11 + 1))) else (none))) else (none)) else (none)) else ((hibernacleref02_Apart.f x3).bind fun t255 => (some t255))
noncomputable def hibernaclelaw35_apart.f (k : Nat) (l0 : List (S24)) : Option (Bool) := (hibernacleref32_Bytes.f k ([] : List ByteArray) ([] : List ByteArray) (⟨#[]⟩ : ByteArray)).bind fun t245 => (hibernaclelaw35_apart.l0 k (([t245] : List ByteArray)) l0 (l0.length : Int) 0)
set_option maxHeartbeats 8000000 in
set_option maxRecDepth 100000 in
theorem hibernaclelaw35_apart.calls (k : Nat) (A0 : Option Addr) (c0 : Nat) (l0 : List (S24)) (r : Bool) (w : World) (hr0 : Kd.C k24 w A0 l0.length l0) (hc0 : l0.length ≤ c0) (h : hibernaclelaw35_apart.f k l0 = some r) :
    Calls Tryz.prog 5 #[.slice A0 l0.length c0] w fun e w' => e = .returned (.bool r) ∧ Below w.heap.size w w' := by
  have hu24 := Tryz.underlying24
  have HR0 := Aside0.mk hr0
  have HC0 := Aside0.mk hc0
  clear hr0 hc0
  have HB := Aside0.mk (Below.refl w.heap.size w)
  have H : ((hibernacleref32_Bytes.f k ([] : List ByteArray) ([] : List ByteArray) (⟨#[]⟩ : ByteArray)).bind fun t245 => (hibernaclelaw35_apart.l0 k (([t245] : List ByteArray)) l0 (l0.length : Int) 0)) = some r := h
  clear h
  replace H := Option.bind_eq_some_iff.mp H
  obtain ⟨t245, A20, H⟩ := H
  replace H : (hibernaclelaw35_apart.l0 k (([t245] : List ByteArray)) l0 (l0.length : Int) 0) = some r := H
  have A2 := Aside0.mk A20
  clear A20
  obtain ⟨y246, hy246⟩ : ∃ y_ : List ByteArray, y_ = (([t245] : List ByteArray)) := ⟨_, rfl⟩
  replace H : (hibernaclelaw35_apart.l0 k y246 l0 (l0.length : Int) 0) = some r := by first | (rw [hy246]; with_reducible exact H) | (have H2_ := (Option.bind_some _ _).symm.trans H; rw [hy246]; with_reducible exact H2_) | (have H2_ := (Option.bind_some _ _).symm.trans H; with_reducible exact H2_) | with_reducible exact H | (rw [hy246]; exact H) | exact H
  have Ny246 := Aside0.mk hy246
  clear hy246
  have H' := Aside0.mk H
  clear H
  go_enter Tryz.func5, Tryz.ntmps5
  go_wp2_with (first | ((with_reducible refine gate_callee (f := 13) rfl ?_); refine goesL_ (some 7) rfl rfl Tryz.func13 (by kernel_rfl) rfl #[.agg #[.slice none 0 0, .slice none 0 0, .string (⟨#[]⟩ : ByteArray)]] rfl (by (try simp only [List.map_toArray, List.map_cons, List.map_nil]); first | done | rfl | (simp only [List.length_drop, List.length_take]; rfl)) ?_; (refine (hibernacleref32_Bytes.calls k _ _ ([] : List ByteArray) _ _ ([] : List ByteArray) (⟨#[]⟩ : ByteArray) t245 _ ?side1 ?side2 ?side3 ?side4 A2.out).mono ?_); (case side1 => exact Kd.C_nil _ _); (case side2 => exact Nat.le_refl _); (case side3 => exact Kd.C_nil _ _); (case side4 => exact Nat.le_refl _); rintro e w3 ⟨rfl, hb⟩; refine ⟨_, rfl, ?_⟩; have n0_ := Aside0.mk (below_step (by repeat (first | (with_reducible first | exact HB.out | apply below_alloc | apply pw_below_drewN | apply below_drew1) | exact HB.out)) hb); clear HB; have HB := n0_; clear n0_; (try clear hb); (try clear hb2); (try clear hk); (try clear hi)) | ((with_reducible refine gate_dst (N := 8) rfl ?_); refine Kd.R_lit Kd.string _ 9 ?hg (N := 8) ?hd (xs := ([t245] : List ByteArray)) (inner := [.string t245]) (ok := fun _ => True) (okp := fun _ => True) ?hr ?hp (fun _ hk => hk) trivial (Below.refl _ _) (Nat.le_refl _) (by simp) ?_; (case hd => rfl); (case hg => rfl); (case hr => first | (go_simp; done) | (go_simp; rfl)); (case hp => exact (Reps.one (show Kd.M Kd.string _ _ _ t245 [.string t245] from rfl) (Reps.none _ _))); intro v247 w4 ho5 hb hg_ hnew_; clear hg_ hnew_; (first | rw [← Ny246.out] at ho5 | (simp only [Int.reduceToNat] at ho5; rw [← Ny246.out] at ho5)); have n0_ := Aside0.mk (Kd.R_lower ho5 (below_size (by repeat (first | (with_reducible first | exact HB.out | apply below_alloc | apply pw_below_drewN | apply below_drew1) | exact HB.out)))); have n1_ := Aside0.mk (below_step (by repeat (first | (with_reducible first | exact HB.out | apply below_alloc | apply pw_below_drewN | apply below_drew1) | exact HB.out)) hb); clear HB; have HO248 := n0_; have HB := n1_; clear n0_ n1_; clear hb ho5))
  go_loopg [3, 11] k (fun kq v3 v11 w' => ∃ (x3_1 : List ByteArray) (x11_1 : Int), v11 = .int .i64 x11_1 ∧ Aside0 (hibernaclelaw35_apart.l0 kq x3_1 l0 (l0.length : Int) x11_1 = some r) ∧ Aside0 (kq ≤ k) ∧ Aside0 (Kd.R Kd.string 9 w' w.heap.size (fun _ => True) v3 x3_1) ∧ Aside0 (Below w.heap.size w w'))
  case atStart => exact ⟨(y246), (0), (by first | rfl | (simp; done) | (simp [*]; done)), H', ⟨Nat.le_refl _⟩, ⟨by (with_reducible repeat (first | apply Kd.R_alloc | apply Kd.R_drewN | apply Kd.R_drew)); exact HO248.out⟩, ⟨by repeat (first | (with_reducible first | exact HB.out | apply below_alloc | apply pw_below_drewN | apply below_drew1) | exact HB.out)⟩⟩
  case round =>
    clear H'
    try clear c1
    try clear c2
    try clear p2
    obtain ⟨x3_1, x11_1, rfl, HA, HK1, HO_3, HB⟩ := hrel
    cases gk with
    | zero => exact absurd HA.out (by simp [hibernaclelaw35_apart.l0])
    | succ k1 =>
      have H := HA.out
      clear HA
      simp only [hibernaclelaw35_apart.l0] at H
      by_cases c6 : x11_1 < (l0.length : Int)
      · rw [if_pos c6] at H
        have c6b0 : decide (x11_1 < (l0.length : Int)) = true := decide_eq_true c6
        clear c6
        by_cases c7 : 0 ≤ x11_1
        · rw [if_pos c7] at H
          have c7b0 : decide (0 ≤ x11_1) = true := decide_eq_true c7
          clear c7
          by_cases c8 : x11_1 < (l0.length : Int)
          · rw [if_pos c8] at H
            have c8b0 : decide (x11_1 < (l0.length : Int)) = true := decide_eq_true c8
            clear c8
            replace H := Option.bind_eq_some_iff.mp H
            obtain ⟨t251, A90, H⟩ := H
            replace H : (if x3_1.length < 8796093022208 then (hibernaclelaw35_apart.l0 k1 (x3_1 ++ [t251]) l0 (l0.length : Int) (wrap64 (x11_1 + 1))) else (none)) = some r := H
            have A9 := Aside0.mk A90
            clear A90
            by_cases c10 : x3_1.length < 8796093022208
            · rw [if_pos c10] at H
              have LMc10 := Aside0.mk c10
              clear c10
              obtain ⟨y252, hy252⟩ : ∃ y_ : List ByteArray, y_ = (x3_1 ++ [t251]) := ⟨_, rfl⟩
              replace H : (hibernaclelaw35_apart.l0 k1 y252 l0 (l0.length : Int) (wrap64 (x11_1 + 1))) = some r := by first | (rw [hy252]; with_reducible exact H) | (have H2_ := (Option.bind_some _ _).symm.trans H; rw [hy252]; with_reducible exact H2_) | (have H2_ := (Option.bind_some _ _).symm.trans H; with_reducible exact H2_) | with_reducible exact H | (rw [hy252]; exact H) | exact H
              have Ny252 := Aside0.mk hy252
              clear hy252
              have H' := Aside0.mk H
              clear H
              have p249 : 0 ≤ (x11_1 : Int) := of_decide_eq_true (by first | (with_reducible assumption) | assumption)
              have q249 : x11_1 < (l0.length : Int) := of_decide_eq_true (by first | (with_reducible assumption) | assumption)
              obtain ⟨ad249, A249_0, c249_0, A249_1, c249_1, e249, hx249_0, hx249_1, hx249_2, hl249_0, hi249_0, hl249_1, hi249_1⟩ := at_T24 HR0.out x11_1 p249 q249
              cases e249
              replace hx249_0 := (HB.out.cell (World.block_lt_of_cell? w _ hx249_0)).trans hx249_0
              replace hx249_1 := (HB.out.cell (World.block_lt_of_cell? w _ hx249_1)).trans hx249_1
              replace hx249_2 := (HB.out.cell (World.block_lt_of_cell? w _ hx249_2)).trans hx249_2
              have HR249_0 := Aside0.mk hi249_0
              have HC249_0 := Aside0.mk hl249_0
              clear hi249_0 hl249_0
              have HR249_1 := Aside0.mk hi249_1
              have HC249_1 := Aside0.mk hl249_1
              clear hi249_1 hl249_1
              replace p249 := eq_true p249
              replace q249 := eq_true q249
              go_wp2_with (first | ((with_reducible refine gate_dst (N := 5) rfl ?_); refine box_event ?hg (N := 5) ?hd (cs := #[.slice none 0 0, .slice none 0 0, .string (⟨#[]⟩ : ByteArray)]) (t := 24) ?hr ?_; (case hd => rfl); (case hg => rfl); (case hr => first | (go_simp; done) | (go_simp; rfl)); intro gb250 hg w11 hbox hb; have n0_ := Aside0.mk (Kd.R_below (by (with_reducible repeat (first | apply Kd.R_alloc | apply Kd.R_drewN | apply Kd.R_drew)); exact HO_3.out) hb); have n1_ := Aside0.mk (below_step (by repeat (first | (with_reducible first | exact HB.out | apply below_alloc | apply pw_below_drewN | apply below_drew1) | exact HB.out)) hb); have n2_ := Aside0.mk (hbox); have n3_ := Aside0.mk ((by rw [hg]; exact (below_size (by repeat (first | (with_reducible first | exact HB.out | apply below_alloc | apply pw_below_drewN | apply below_drew1) | exact HB.out))) : w.heap.size ≤ gb250)); have n4_ := Aside0.mk ((by rw [hg]; exact (below_size (by repeat (first | (with_reducible first | exact HB.out | apply below_alloc | apply pw_below_drewN | apply below_drew1) | exact HB.out))) : w.heap.size ≤ gb250)); clear HO_3; clear HB; have HO_3 := n0_; have HB := n1_; have BK250 := n2_; have GW250 := n3_; have GE250 := n4_; clear n0_ n1_ n2_ n3_ n4_; clear hb hbox hg; have hcz12_0 : w11.cell? ⟨gb250, 0, none⟩ = some (.slice none 0 0) := (blk_cell BK250.out 0).trans rfl; have hcz12_1 : w11.cell? ⟨gb250, 1, none⟩ = some (.slice none 0 0) := (blk_cell BK250.out 1).trans rfl; have hcz12_2 : w11.cell? ⟨gb250, 2, none⟩ = some (.string (⟨#[]⟩ : ByteArray)) := (blk_cell BK250.out 2).trans rfl; have hfz12_0 := blk_frozen BK250.out 0; have hfz12_1 := blk_frozen BK250.out 1; have hfz12_2 := blk_frozen BK250.out 2) | ((with_reducible refine gate_callee (f := 13) rfl ?_); refine goesL_ (some 17) rfl rfl Tryz.func13 (by kernel_rfl) rfl #[.agg #[.slice A249_0 ((rd_T24 l0 x11_1).f0).length c249_0, .slice A249_1 ((rd_T24 l0 x11_1).f1).length c249_1, .string ((rd_T24 l0 x11_1).f2)]] rfl (by (try simp only [List.map_toArray, List.map_cons, List.map_nil]); first | done | rfl | (simp only [List.length_drop, List.length_take]; rfl)) ?_; (with_reducible refine (hibernacleref32_Bytes.calls k1 _ _ ((rd_T24 l0 x11_1).f0) _ _ ((rd_T24 l0 x11_1).f1) ((rd_T24 l0 x11_1).f2) t251 _ ?side1 ?side2 ?side3 ?side4 A9.out).mono ?_); (case side1 => exact Kd.C_below HR249_0.out (by repeat (first | (with_reducible first | exact HB.out | apply below_alloc | apply pw_below_drewN | apply below_drew1 | refine below_set ?_ GE250.out) | exact HB.out))); (case side2 => exact HC249_0.out); (case side3 => exact Kd.C_below HR249_1.out (by repeat (first | (with_reducible first | exact HB.out | apply below_alloc | apply pw_below_drewN | apply below_drew1 | refine below_set ?_ GE250.out) | exact HB.out))); (case side4 => exact HC249_1.out); rintro e w13 ⟨rfl, hb⟩; refine ⟨_, rfl, ?_⟩; have n0_ := Aside0.mk (Kd.R_below (by (with_reducible repeat (first | apply Kd.R_alloc | apply Kd.R_drewN | apply Kd.R_drew)); exact (Kd.R_mono (Kd.R_far (p := ⟨gb250, 2, none⟩) (Kd.R_far (p := ⟨gb250, 1, none⟩) (Kd.R_far (p := ⟨gb250, 0, none⟩) (Kd.R_types HO_3.out BK250.out (by decide)) (fun _ hk => hk.2) (.slice A249_0 ((rd_T24 l0 x11_1).f0).length c249_0)) (fun _ hk => hk.2) (.slice A249_1 ((rd_T24 l0 x11_1).f1).length c249_1)) (fun _ hk => hk.2) (.string ((rd_T24 l0 x11_1).f2))) (fun _ h_ => h_.1))) hb); have n1_ := Aside0.mk (blk_below (g := gb250) (o := .cells #[.slice A249_0 ((rd_T24 l0 x11_1).f0).length c249_0, .slice A249_1 ((rd_T24 l0 x11_1).f1).length c249_1, .string ((rd_T24 l0 x11_1).f2)] 24 (0, 0)) (by (with_reducible repeat (first | refine blk_drewN ?_ _ | refine blk_drew ?_ | refine blk_alloc ?_ _)); refine blk_put (cs := #[.slice A249_0 ((rd_T24 l0 x11_1).f0).length c249_0, .slice A249_1 ((rd_T24 l0 x11_1).f1).length c249_1, .string (⟨#[]⟩ : ByteArray)]) ?_ 2 _ rfl; (with_reducible repeat (first | refine blk_drewN ?_ _ | refine blk_drew ?_ | refine blk_alloc ?_ _)); refine blk_put (cs := #[.slice A249_0 ((rd_T24 l0 x11_1).f0).length c249_0, .slice none 0 0, .string (⟨#[]⟩ : ByteArray)]) ?_ 1 _ rfl; (with_reducible repeat (first | refine blk_drewN ?_ _ | refine blk_drew ?_ | refine blk_alloc ?_ _)); refine blk_put (cs := #[.slice none 0 0, .slice none 0 0, .string (⟨#[]⟩ : ByteArray)]) ?_ 0 _ rfl; (with_reducible repeat (first | refine blk_drewN ?_ _ | refine blk_drew ?_ | refine blk_alloc ?_ _)); exact BK250.out) hb); have n2_ := Aside0.mk (below_step (by repeat (first | (with_reducible first | exact HB.out | apply below_alloc | apply pw_below_drewN | apply below_drew1 | refine below_set ?_ GE250.out) | exact HB.out)) hb); clear HO_3; clear BK250; clear HB; have HO_3 := n0_; have BK250 := n1_; have HB := n2_; clear n0_ n1_ n2_; (try clear hb); (try clear hb2); (try clear hk); (try clear hi)) | ((with_reducible refine gate_builtin (b := .append) (xs := #[.tmp 15, .tmp 18]) rfl ?_); at_builtin; refine Kd.R_append Kd.string (w0 := w) w.heap.size rfl (.tmp 15) (.tmp 18) 22 9 (.string ⟨#[]⟩) 16 rfl Tryz.underlying22 info9a rfl (by decide) (by omega) u3 x3_1 t251 [.string t251] (fun _ => True) (fun _ => False) rfl rfl ?aP (fun _ hk => hk.elim) ?aF ?aO ?aB ?aS ?aL ?_; (case aP => exact rfl); (case aB => exact (by repeat (first | (with_reducible first | exact HB.out | apply below_alloc | apply pw_below_drewN | apply below_drew1 | refine below_set ?_ GE250.out) | exact HB.out))); (case aF => exact (fun _ _ => trivial)); (case aO => exact (by (with_reducible repeat (first | apply Kd.R_alloc | apply Kd.R_drewN | apply Kd.R_drew)); exact HO_3.out)); (case aS => exact (below_size (by repeat (first | (with_reducible first | exact HB.out | apply below_alloc | apply pw_below_drewN | apply below_drew1 | refine below_set ?_ GE250.out) | exact HB.out)))); (case aL => have := LMc10.out; omega); intro v253 w14 ho hb hg hat; rw [← Ny252.out] at ho; have n0_ := Aside0.mk (blk_grown (g := gb250) (o := .cells #[.slice A249_0 ((rd_T24 l0 x11_1).f0).length c249_0, .slice A249_1 ((rd_T24 l0 x11_1).f1).length c249_1, .string ((rd_T24 l0 x11_1).f2)] 24 (0, 0)) (by (with_reducible repeat (first | refine blk_drewN ?_ _ | refine blk_drew ?_ | refine blk_alloc ?_ _)); exact BK250.out) hg (Kd.R_ne HO_3.out BK250.out (by decide))); have n1_ := Aside0.mk (hb); have n2_ := Aside0.mk (ho); clear BK250; clear HB; clear HO_3; have BK250 := n0_; have HB := n1_; have HO254 := n2_; clear n0_ n1_ n2_; clear ho hb hg hat))
              go_roundg k1
              case measure => have := HK1.out; omega
              case rel => exact ⟨(y252), (wrap64 (x11_1 + 1)), (by first | rfl | (simp; done) | (simp [*]; done)), H', ⟨by have := HK1.out; omega⟩, ⟨by (with_reducible repeat (first | apply Kd.R_alloc | apply Kd.R_drewN | apply Kd.R_drew)); exact HO254.out⟩, ⟨by repeat (first | (with_reducible first | exact HB.out | apply below_alloc | apply pw_below_drewN | apply below_drew1 | refine below_set ?_ GE250.out) | exact HB.out)⟩⟩
            · rw [if_neg c10] at H
              exact absurd H (by simp)
          · rw [if_neg c8] at H
            exact absurd H (by simp)
        · rw [if_neg c7] at H
          exact absurd H (by simp)
      · rw [if_neg c6] at H
        have c6b0 : decide (x11_1 < (l0.length : Int)) = false := decide_eq_false c6
        clear c6
        replace H := Option.bind_eq_some_iff.mp H
        obtain ⟨t255, A150, H⟩ := H
        replace H : (some t255) = some r := H
        have A15 := Aside0.mk A150
        clear A150
        obtain rfl := Option.some.inj H
        obtain ⟨Ao16, co16, eo16⟩ := Kd.R_slice HO_3.out
        subst eo16
        go_wp2_with (first | ((with_reducible refine gate_callee (f := 14) rfl ?_); refine goesL_ (some 22) rfl rfl Tryz.func14 (by kernel_rfl) rfl #[.slice Ao16 x3_1.length co16] rfl (by (try simp only [List.map_toArray, List.map_cons, List.map_nil]); first | done | rfl | (simp only [List.length_drop, List.length_take]; rfl)) ?_; (with_reducible refine (hibernacleref02_Apart.calls _ _ x3_1 t255 _ ?side1 ?side2 A15.out).mono ?_); (case side1 => repeat (first | exact (Kd.R_reads' HO_3.out).2.2 | (with_reducible refine Kd.C_alloc ?_ _) | (with_reducible refine Kd.C_drewN ?_ _) | (with_reducible refine Kd.C_drew ?_))); (case side2 => exact (Kd.R_reads' HO_3.out).2.1); rintro e w17 ⟨rfl, hb⟩; refine ⟨_, rfl, ?_⟩; have n0_ := Aside0.mk (Kd.R_below (by (with_reducible repeat (first | apply Kd.R_alloc | apply Kd.R_drewN | apply Kd.R_drew)); exact HO_3.out) hb); have n1_ := Aside0.mk (below_step (by repeat (first | (with_reducible first | exact HB.out | apply below_alloc | apply pw_below_drewN | apply below_drew1) | exact HB.out)) hb); clear HO_3; clear HB; have HO_3 := n0_; have HB := n1_; clear n0_ n1_; (try clear hb); (try clear hb2); (try clear hk); (try clear hi)))
        go_ret
        exact ⟨by first | rfl | (simp [errW_none, errW_some] <;> rfl) | (simp [*, errW_none, errW_some] <;> rfl), by repeat (first | (with_reducible first | exact HB.out | apply below_alloc | apply pw_below_drewN | apply below_drew1) | exact HB.out)⟩

end Go.Proofs.YtoljjgabgdifbaaGreatDoor.H

namespace Go.Proofs.YtoljjgabgdifbaaGreatDoor.H
open Go.RowKit Go.Proofs.YtoljjgabgdifbaaGreatDoorW.PrintWords Go.Proofs.YtoljjgabgdifbaaGreatDoorW.PrintLast Go.Proofs.YtoljjgabgdifbaaGreatDoorW.PrintMore
set_option linter.unusedVariables false
set_option linter.unusedSimpArgs false

theorem at_eq (x : List ByteArray) {i : Nat} (h : i < x.length) : at_ x i = x[i] := by simp [at_, List.getD_eq_getElem?_getD, List.getElem?_eq_getElem h]
theorem bytes_eq {a b : ByteArray} (h : a.toList = b.toList) : a = b := by
  rw [ByteArray.toList_eq, ByteArray.toList_eq] at h
  cases a
  cases b
  congr 1
  exact Array.toList_inj.1 h
theorem rdOf_nat (x : List ByteArray) (i : Nat) : rdOf ByteArray.empty x (i : Int) = at_ x i := rdOf_at x i
/-- Some texts of the one, the others of the other one. -/
theorem mid_step {x y : List ByteArray} {i : Nat} (hi : i < y.length) (hx : i < x.length) (h : at_ x i = at_ y i) : y.take i ++ x.drop i = y.take (i + 1) ++ x.drop (i + 1) := by
  rw [at_eq x hx, at_eq y hi] at h
  rw [List.drop_eq_getElem_cons hx, List.take_add_one, List.getElem?_eq_getElem hi, h]
  simp only [Option.toList_some, List.append_assoc, List.singleton_append]
theorem mid_set {x y : List ByteArray} {i : Nat} (hi : i < y.length) (hx : i < x.length) : (y.take i ++ x.drop i).set i (at_ y i) = y.take (i + 1) ++ x.drop (i + 1) := by
  rw [at_eq y hi, List.drop_eq_getElem_cons hx, List.take_add_one, List.getElem?_eq_getElem hi]
  rw [List.set_append_right _ _ (by rw [List.length_take]; omega)]
  have e : i - (y.take i).length = 0 := by rw [List.length_take]; omega
  rw [e]
  simp only [List.set_cons_zero, Option.toList_some, List.append_assoc, List.singleton_append]
theorem mid_app {x y : List ByteArray} {i : Nat} (hi : i < y.length) (hx : x.length ≤ i) : (y.take i ++ x.drop i) ++ [at_ y i] = y.take (i + 1) ++ x.drop (i + 1) := by
  rw [at_eq y hi, List.drop_of_length_le hx, List.drop_of_length_le (by omega), List.take_add_one, List.getElem?_eq_getElem hi]
  simp
theorem done_l0 (x y : List ByteArray) (hxy : x.length ≤ y.length) (hy : y.length ≤ 5864062014805) : ∀ (d i k : Nat), i + d = y.length → 2 * d + 1 < k →
    delta_done.l0 k (y.take i ++ x.drop i) (chg x y y.length) ((chg x y y.length).length : Int) ((chg x y i).length : Int) = some (y, 0)
  | 0, i, k, h, hk => by
    obtain ⟨k, rfl⟩ : ∃ m, k = m + 1 := ⟨k - 1, by omega⟩
    obtain rfl : i = y.length := by omega
    rw [delta_done.l0, if_neg (by omega), List.take_length, List.drop_of_length_le hxy, List.append_nil]
  | d + 1, i, k, h, hk => by
    have hi : i < y.length := by omega
    by_cases uo : unlike x y i = true
    · obtain ⟨k, rfl⟩ : ∃ m, k = m + 1 + 1 := ⟨k - 2, by omega⟩
      have ih := done_l0 x y hxy hy d (i + 1) k (by omega) (by omega)
      obtain ⟨cl, cg⟩ := chg_at hi uo
      have cn := chg_len x y y.length
      have el : ((chg x y (i + 1)).length : Int) = wrap64 (((chg x y i).length : Int) + 1) := by
        rw [chg, if_pos uo, List.length_append, List.length_singleton, wrap_succ (n := y.length) (by omega) hy]
      rw [el] at ih
      have er : rd_T46 (chg x y y.length) ((chg x y i).length : Int) = ⟨(i : Int), at_ y i⟩ := by simp [rd_T46, List.getD_eq_getElem?_getD, cg]
      have ln : (y.take i ++ x.drop i).length = max i x.length := by
        rw [List.length_append, List.length_take, List.length_drop]
        omega
      rw [delta_done.l0, if_pos (by omega), if_pos (by omega), if_pos (by omega), er]
      simp only []
      rw [if_neg (by omega), show decide ((i : Int) > ((y.take i ++ x.drop i).length : Int)) = false from by rw [ln]; simp; omega, delta_done.j1, if_neg (by simp)]
      by_cases c : x.length ≤ i
      · rw [if_pos (by rw [ln]; omega), if_pos (by rw [ln]; omega), mid_app hi c]
        exact ih
      · rw [if_neg (by rw [ln]; omega), if_pos (by omega), if_pos (by rw [ln]; omega), Int.toNat_natCast, mid_set hi (by omega)]
        exact ih
    · have ih := done_l0 x y hxy hy d (i + 1) k (by omega) (by omega)
      have hx : i < x.length := by
        simp [unlike] at uo
        omega
      have he : at_ x i = at_ y i := by
        simp [unlike] at uo
        exact bytes_eq uo.2
      rw [← mid_step hi hx he, chg, if_neg uo] at ih
      exact ih
theorem done_f (x y : List ByteArray) (hxy : x.length ≤ y.length) (hy : y.length ≤ 5864062014805) {k : Nat} (hk : 2 * y.length + 1 < k) : delta_done.f k x (chg x y y.length) = some (y, 0) := by
  unfold delta_done.f slices_Clone_string_string.f
  rw [if_pos (by omega), Option.bind_some]
  exact done_l0 x y hxy hy y.length 0 k (by omega) hk
theorem texts_l0 (x y : List ByteArray) (hl : x.length = y.length) (hy : y.length ≤ 5864062014805) : ∀ (d i k : Nat), i + d = y.length → d < k → x.take i = y.take i →
    ∃ r, hibernacleref35_texts.l0 k x y (i : Int) = some r ∧ (r = true ↔ x = y)
  | 0, i, k, h, hk, ht => by
    obtain ⟨k, rfl⟩ : ∃ m, k = m + 1 := ⟨k - 1, by omega⟩
    rw [hibernacleref35_texts.l0, if_neg (by omega)]
    rw [List.take_of_length_le (by omega), List.take_of_length_le (by omega)] at ht
    exact ⟨true, rfl, by simp [ht]⟩
  | d + 1, i, k, h, hk, ht => by
    obtain ⟨k, rfl⟩ : ∃ m, k = m + 1 := ⟨k - 1, by omega⟩
    have hi : i < y.length := by omega
    rw [hibernacleref35_texts.l0, if_pos (by omega), if_pos (by omega), if_pos (by omega), rdOf_nat, rdOf_nat, wrap_succ hi hy]
    by_cases e : (at_ x i).toList = (at_ y i).toList
    · rw [if_pos e]
      refine texts_l0 x y hl hy d (i + 1) k (by omega) (by omega) ?_
      have e2 := bytes_eq e
      rw [at_eq x (by omega), at_eq y hi] at e2
      rw [List.take_add_one, List.take_add_one, ht, List.getElem?_eq_getElem hi, List.getElem?_eq_getElem (show i < x.length by omega), e2]
    · rw [if_neg e]
      refine ⟨false, rfl, ?_⟩
      simp only [Bool.false_eq_true, false_iff]
      intro hxy
      rw [hxy] at e
      exact e rfl
theorem texts_f (x y : List ByteArray) (hy : y.length ≤ 5864062014805) {k : Nat} (hk : y.length < k) : ∃ r, hibernacleref35_texts.f k x y = some r ∧ (r = true ↔ x = y) := by
  unfold hibernacleref35_texts.f
  by_cases c : (x.length : Int) = (y.length : Int)
  · rw [if_pos c]
    exact texts_l0 x y (by omega) hy y.length 0 k (by omega) hk rfl
  · rw [if_neg c]
    exact ⟨false, rfl, by simp only [Bool.false_eq_true, false_iff]; intro h; rw [h] at c; exact c rfl⟩
theorem images_f (x y : S24) (h0 : y.f0.length ≤ 5864062014805) (h1 : y.f1.length ≤ 5864062014805) {k : Nat} (hk : 5864062014805 < k) : ∃ r, hibernacleref35_Images.f k x.f0 x.f1 x.f2 y.f0 y.f1 y.f2 = some r ∧ (r = true ↔ x = y) := by
  unfold hibernacleref35_Images.f
  obtain ⟨r0, e0, q0⟩ := texts_f x.f0 y.f0 h0 (k := k) (by omega)
  obtain ⟨r1, e1, q1⟩ := texts_f x.f1 y.f1 h1 (k := k) (by omega)
  by_cases c : x.f2.toList = y.f2.toList
  · rw [if_pos c, e0, Option.bind_some]
    have c2 := bytes_eq c
    by_cases d : r0 = true
    · rw [if_pos d, e1, Option.bind_some]
      refine ⟨r1, rfl, ?_⟩
      rw [q1]
      have d' := q0.1 d
      cases x
      cases y
      simp_all
    · rw [if_neg d]
      refine ⟨false, rfl, ?_⟩
      simp only [Bool.false_eq_true, false_iff]
      intro h
      rw [h] at q0
      exact d (q0.2 rfl)
  · rw [if_neg c]
    refine ⟨false, rfl, ?_⟩
    simp only [Bool.false_eq_true, false_iff]
    intro h
    rw [h] at c
    exact c rfl
/-- An image's bytes, as a text. -/
def imgB (x : S24) : ByteArray := ⟨(imageL x.f0 x.f1 x.f2).toArray⟩
def iSum (x : S24) : List Int := imgSum x.f0 x.f1 x.f2
theorem imgB_inj {x y : S24} (h : imgB x = imgB y) : x = y := by
  have e : imageL x.f0 x.f1 x.f2 = imageL y.f0 y.f1 y.f2 := by
    have := congrArg (fun b => b.data.toList) h
    simpa [imgB] using this
  obtain ⟨e0, e1, e2⟩ := imageL_inj e
  cases x
  cases y
  simp_all
/-- The image without anything. -/
def noth : S24 := ⟨[], [], ⟨#[]⟩⟩
theorem apt_inj {l : List S24} (h : Apt (l.map imgB) l.length) {i j : Nat} (hi : i < l.length) (hj : j < l.length) (he : iSum l[i] = iSum l[j]) : l[i] = l[j] := by
  have ea : ∀ i (hi : i < l.length), at_ (l.map imgB) i = imgB l[i] := fun i hi => by
    rw [at_eq _ (by rw [List.length_map]; exact hi), List.getElem_map]
  rcases Nat.lt_trichotomy i j with c | c | c
  · have := h j i c hj (by rw [ea i hi, ea j hj]; exact he.symm)
    rw [ea i hi, ea j hj] at this
    exact (imgB_inj (bytes_eq this)).symm
  · subst c; rfl
  · have := h i j c hi (by rw [ea i hi, ea j hj]; exact he)
    rw [ea i hi, ea j hj] at this
    exact imgB_inj (bytes_eq this)
theorem bytes_f' (x : S24) (h0 : x.f0.length ≤ 5864062014805) (h1 : x.f1.length ≤ 5864062014805) (hL : (imageL x.f0 x.f1 x.f2).length ≤ 140737488355328) {k : Nat} (hk : 281474976710656 ≤ k) : hibernacleref32_Bytes.f k x.f0 x.f1 x.f2 = some (imgB x) := by
  have hl := imageL_len x.f0 x.f1 x.f2
  unfold hibernacleref32_Bytes.f
  rw [row_f x.f0 h0 (by omega) (by omega), Option.bind_some, row_f x.f1 h1 (by omega) (by omega), Option.bind_some, show (⟨#[104, 105, 98, 105]⟩ : ByteArray) = hibi from rfl, row_f _ (by simp) hL (by simp; omega), Option.bind_some]
  rfl
theorem apart_l0 (l : List S24) (hl : l.length ≤ 1000) (hs : ∀ x ∈ l, x.f0.length ≤ 5864062014805 ∧ x.f1.length ≤ 5864062014805 ∧ (imageL x.f0 x.f1 x.f2).length ≤ 140737488355328) : ∀ (d i k : Nat), i + d = l.length → d + 281474976710656 < k →
    hibernaclelaw35_apart.l0 k (((noth :: l).map imgB).take (i + 1)) l (l.length : Int) (i : Int) = some (aptB ((noth :: l).map imgB))
  | 0, i, k, h, hk => by
    obtain ⟨k, rfl⟩ : ∃ m, k = m + 1 := ⟨k - 1, by omega⟩
    rw [hibernaclelaw35_apart.l0, if_neg (by omega), List.take_of_length_le (by rw [List.length_map, List.length_cons]; omega)]
    unfold hibernacleref02_Apart.f
    rw [if_pos (by simp), if_pos (by rw [List.length_map, List.length_cons]; omega), if_pos ?_, Option.bind_some]
    rw [List.all_eq_true]
    intro b hb
    rw [List.mem_map] at hb
    obtain ⟨x, hx, rfl⟩ := hb
    rw [decide_eq_true_iff]
    show (imageL x.f0 x.f1 x.f2).toArray.size ≤ _
    rw [List.size_toArray]
    rcases List.mem_cons.1 hx with rfl | hx
    · decide +kernel
    · exact (hs x hx).2.2
  | d + 1, i, k, h, hk => by
    obtain ⟨k, rfl⟩ : ∃ m, k = m + 1 := ⟨k - 1, by omega⟩
    have hi : i < l.length := by omega
    have er : rd_T24 l (i : Int) = l[i] := by simp [rd_T24, List.getD_eq_getElem?_getD, List.getElem?_eq_getElem hi]
    obtain ⟨s0, s1, s2⟩ := hs l[i] (List.getElem_mem hi)
    rw [hibernaclelaw35_apart.l0, if_pos (by omega), if_pos (by omega), if_pos (by omega), er, bytes_f' l[i] s0 s1 s2 (by omega), Option.bind_some, if_pos (by rw [List.length_take, List.length_map, List.length_cons]; omega), wrap_succ hi (by omega)]
    have et : ((noth :: l).map imgB).take (i + 1) ++ [imgB l[i]] = ((noth :: l).map imgB).take (i + 1 + 1) := by
      rw [List.take_add_one (i := i + 1)]
      simp [List.getElem?_eq_getElem hi]
    rw [et]
    exact apart_l0 l hl hs d (i + 1) k (by omega) (by omega)
theorem apart_f (l : List S24) (hl : l.length ≤ 1000) (hs : ∀ x ∈ l, x.f0.length ≤ 5864062014805 ∧ x.f1.length ≤ 5864062014805 ∧ (imageL x.f0 x.f1 x.f2).length ≤ 140737488355328) {k : Nat} (hk : l.length + 281474976710656 < k) :
    hibernaclelaw35_apart.f k l = some (aptB ((noth :: l).map imgB)) := by
  unfold hibernaclelaw35_apart.f
  have e := bytes_f' noth (by decide) (by decide) (by decide +kernel) (k := k) (by omega)
  rw [show hibernacleref32_Bytes.f k [] [] ⟨#[]⟩ = some (imgB noth) from e, Option.bind_some]
  exact apart_l0 l hl hs l.length 0 k (by omega) (by omega)
end Go.Proofs.YtoljjgabgdifbaaGreatDoor.H

namespace Go.Proofs.YtoljjgabgdifbaaGreatDoor.H
open Go.ChangeShapes Go.WideShapes Go.ChangeAt Go.RowKit Go.Joins
open Go.RowKit Go.Proofs.YtoljjgabgdifbaaGreatDoorW.PrintWords Go.Proofs.YtoljjgabgdifbaaGreatDoorW.PrintLast
set_option linter.unusedVariables false
set_option linter.unusedSimpArgs false

theorem laidOut : laidOutB Tryz.prog = true := by kernel_rfl
theorem cells24 : Tryz.prog.cellsOf 24 = 3 := by kernel_rfl
theorem cells9 : Tryz.prog.cellsOf 9 = 1 := by kernel_rfl
/-- What texts weigh: each letter one, each text one. -/
def tot : List ByteArray → Nat
  | [] => 0
  | s :: l => s.size + 1 + tot l
theorem tot_len : ∀ l : List ByteArray, l.length ≤ tot l
  | [] => Nat.le_refl _
  | s :: l => by
    have := tot_len l
    simp only [tot, List.length_cons]
    omega
theorem bulk_strs {H : Type} : ∀ l : List ByteArray, Rows.uptoBulkAll (strs (H := H) l) = tot l
  | [] => by simp [strs, Rows.uptoBulkAll, tot]
  | s :: l => by
    have := bulk_strs (H := H) l
    simp only [strs, List.map_cons, Rows.uptoBulkAll, Rows.uptoBulk, tot, Array.length_toList] at this ⊢
    rw [this]
    have : s.data.size = s.size := rfl
    omega
section
variable {H : Type} {enc : TypeId × Value → H} {W : World}
theorem open_texts {fuel : Nat} {v : Value} {y : DataW H × List MemPlace} (h : DataW.trod enc Tryz.prog W 0 (fun _ => true) true fuel 22 [v] = some y) :
    ∃ (A : Option Addr) (c : Nat) (l : List ByteArray), v = .slice A l.length c ∧ Kd.C Kd.string W A l.length l ∧ l.length ≤ c ∧ tot l ≤ Rows.uptoBulk y.1 := by
  rcases open_strings Tryz.underlying22 Tryz.underlying9 cells9 h with ⟨e, hx⟩ | ⟨a, len, cap, ss, e, _, hl, hm, hz, hx, hcell, hsz⟩
  · simp only [List.cons.injEq, and_true] at e
    subst hx
    exact ⟨none, 0, [], e, Kd.C_nil _ _, Nat.le_refl _, by simp [tot]⟩
  · simp only [List.cons.injEq, and_true] at e
    rw [if_pos rfl] at hz
    have ht : (ss.take len).length = len := by rw [List.length_take]; omega
    have hmm : maxLen ≤ 9223372036854775807 := by decide
    refine ⟨some a, cap, ss.take len, by rw [ht]; exact e, ?_, by omega, ?_⟩
    · refine Kd.C_of_reads (d := ByteArray.empty) ⟨rfl, by omega, fun _ => ⟨a, rfl, fun j hj => ?_⟩⟩
      rw [hcell j (by omega)]
      rw [List.getD_eq_getElem?_getD, List.getD_eq_getElem?_getD, List.getElem?_take_of_lt (by omega)]
    · rw [hx]
      simp only [Rows.uptoBulk]
      rw [bulk_strs]
      omega
set_option maxRecDepth 100000 in
/-- An image that came in. -/
theorem open_image {r : Reach} {b0 : Nat} {v : Value} {d : DataW H} {p : List MemPlace} (hv : Value.okWide Tryz.prog W r b0 24 v) (h : DataW.Trod enc Tryz.prog W 0 (fun _ => true) true 24 v d p) :
    ∃ (A0 : Option Addr) (c0 : Nat) (A1 : Option Addr) (c1 : Nat) (x : S24), v = .agg #[.slice A0 x.f0.length c0, .slice A1 x.f1.length c1, .string x.f2] ∧
      Kd.C Kd.string W A0 x.f0.length x.f0 ∧ x.f0.length ≤ c0 ∧ Kd.C Kd.string W A1 x.f1.length x.f1 ∧ x.f1.length ≤ c1 ∧ tot x.f0 + tot x.f1 + x.f2.size ≤ Rows.uptoBulk d := by
  obtain ⟨v0, v1, v2, y0, y1, y2, n, rfl, rfl, rfl, h0, h1, h2⟩ := open_agg3 Tryz.underlying24 (by kernel_rfl) cells24 hv h
  obtain ⟨A0, c0, l0, rfl, k0, m0, b0⟩ := open_texts h0
  obtain ⟨A1, c1, l1, rfl, k1, m1, b1⟩ := open_texts h1
  obtain ⟨s, e, hs, _⟩ := DataW.trod_string Tryz.underlying9 h2
  simp only [List.cons.injEq, and_true] at e
  subst e
  refine ⟨A0, c0, A1, c1, ⟨l0, l1, s⟩, rfl, k0, m0, k1, m1, ?_⟩
  subst hs
  simp only [Rows.uptoBulk, Rows.uptoBulkAll, Array.length_toList]
  have : s.data.size = s.size := rfl
  omega
theorem trod_below {t : TypeId} {v : Value} {d : DataW H} {p : List MemPlace} (h : DataW.Trod enc Tryz.prog W 0 (fun _ => true) true t v d p) : ∀ x ∈ p, x.block < W.heap.size := by
  obtain ⟨m, hm⟩ := h
  exact DataW.trod_lt m _ _ _ hm
end
theorem lenB_le : ∀ (k n : Nat), n < k → (lenB n).length ≤ n + 1
  | k + 1, n, h => by
    rw [lenB]
    split
    · have := lenB_le k (n / 128) (by omega)
      rw [List.length_cons]
      omega
    · simp
theorem rowB_le : ∀ l : List ByteArray, (rowB l).length ≤ 2 * tot l
  | [] => Nat.le_refl _
  | s :: l => by
    have := rowB_le l
    have h1 := lenB_le (s.size + 1) s.size (by omega)
    simp only [rowB, List.length_append, Array.length_toList, tot]
    have : s.data.size = s.size := rfl
    omega
theorem imageL_le (f0 f1 : List ByteArray) (s : ByteArray) : (imageL f0 f1 s).length ≤ 4 * tot f0 + 4 * tot f1 + 2 * s.size + 16 := by
  have h := rowB_le [hibi, ⟨(rowB f0).toArray⟩, ⟨(rowB f1).toArray⟩, s]
  have h0 := rowB_le f0
  have h1 := rowB_le f1
  have ea : (ByteArray.mk (rowB f0).toArray).size = (rowB f0).length := by show (rowB f0).toArray.size = _; simp
  have eb : (ByteArray.mk (rowB f1).toArray).size = (rowB f1).length := by show (rowB f1).toArray.size = _; simp
  have e2 : hibi.size = 4 := rfl
  simp only [tot, ea, eb, e2] at h
  show (rowB [hibi, ⟨(rowB f0).toArray⟩, ⟨(rowB f1).toArray⟩, s]).length ≤ _
  omega
end Go.Proofs.YtoljjgabgdifbaaGreatDoor.H

namespace Go.Proofs.YtoljjgabgdifbaaGreatDoor.H
open Go.RowKit Go.Proofs.YtoljjgabgdifbaaGreatDoorW.PrintWords Go.Proofs.YtoljjgabgdifbaaGreatDoorW.PrintLast Go.Proofs.YtoljjgabgdifbaaGreatDoorW.PrintMore
set_option linter.unusedVariables false
set_option linter.unusedSimpArgs false

/-- Writes of the texts of which U holds, rising. -/
def cov (U : Nat → Bool) (y : List ByteArray) : Nat → List S46
  | 0 => []
  | i + 1 => if U i then cov U y i ++ [⟨(i : Int), at_ y i⟩] else cov U y i
theorem chg_cov (x y : List ByteArray) : ∀ i, chg x y i = cov (unlike x y) y i
  | 0 => rfl
  | i + 1 => by rw [chg, cov, chg_cov x y i]
theorem cov_map (U : Nat → Bool) (y : List ByteArray) : ∀ i, cov U y i = ((List.range i).filter U).map fun j => ⟨(j : Int), at_ y j⟩
  | 0 => rfl
  | i + 1 => by
    rw [cov, List.range_succ, List.filter_append, List.map_append, ← cov_map U y i]
    by_cases h : U i = true
    · simp [h]
    · simp [h]
/-! ### the numbers of the writes -/
theorem chg_mem {x y : List ByteArray} {n : Nat} {w : S46} : w ∈ chg x y n ↔ ∃ j, j < n ∧ unlike x y j = true ∧ w = ⟨(j : Int), at_ y j⟩ := by
  rw [chg_cov, cov_map]
  simp only [List.mem_map, List.mem_filter, List.mem_range]
  constructor
  · rintro ⟨j, ⟨h1, h2⟩, rfl⟩
    exact ⟨j, h1, h2, rfl⟩
  · rintro ⟨j, h1, h2, rfl⟩
    exact ⟨j, ⟨h1, h2⟩, rfl⟩
/-! ### how great images are -/
def wt : List ByteArray → Nat
  | [] => 0
  | s :: l => 4 + s.size + wt l
theorem wt_tot : ∀ l : List ByteArray, wt l ≤ 4 * tot l
  | [] => Nat.le_refl _
  | s :: l => by
    have := wt_tot l
    simp only [wt, tot]
    omega
theorem wt_at : ∀ (l : List ByteArray) (i : Nat), (at_ l i).size ≤ wt l
  | [], i => by simp [at_]
  | s :: l, 0 => by simp [at_, wt]; omega
  | s :: l, i + 1 => by
    have := wt_at l i
    simp only [wt]
    have e : at_ (s :: l) (i + 1) = at_ l i := by simp [at_]
    rw [e]
    omega
theorem wrap_nat {n : Nat} (h : n < 9223372036854775808) : wrap64 (n : Int) = (n : Int) := by
  rw [← i64_w, IntWalk.i64_in _ (by omega)]
theorem size_l0 (l : List ByteArray) (hl : l.length ≤ 5864062014805) : ∀ (k i n : Nat) (r : Int), i ≤ l.length → n + wt (l.drop i) < 4611686018427387904 → hibernaclelaw35_size.l0 k (n : Int) l (l.length : Int) (i : Int) = some r → r = ((n + wt (l.drop i) : Nat) : Int)
  | 0, i, n, r, hi, hn, h => by simp [hibernaclelaw35_size.l0] at h
  | k + 1, i, n, r, hi, hn, h => by
    by_cases c : i < l.length
    · have ed := List.drop_eq_getElem_cons c
      rw [ed] at hn ⊢
      simp only [wt] at hn ⊢
      rw [hibernaclelaw35_size.l0, if_pos (by omega), if_pos (by omega), if_pos (by omega), wrap_succ c hl, rdOf_nat, at_eq _ c] at h
      rw [show (4 : Int) + ((l[i]).size : Int) = ((4 + (l[i]).size : Nat) : Int) by omega, wrap_nat (by omega), show (n : Int) + ((4 + (l[i]).size : Nat) : Int) = ((n + (4 + (l[i]).size) : Nat) : Int) by omega, wrap_nat (by omega)] at h
      have := size_l0 l hl k (i + 1) _ r (by omega) (by omega) h
      rw [this]
      omega
    · obtain rfl : i = l.length := by omega
      rw [hibernaclelaw35_size.l0, if_neg (by omega)] at h
      rw [List.drop_length]
      simp only [wt]
      rw [← Option.some.inj h]
      omega
theorem size_f {l : List ByteArray} {k : Nat} {r : Int} (hl : l.length ≤ 5864062014805) (hn : wt l < 4611686018427387904) (h : hibernaclelaw35_size.f k l = some r) : r = ((wt l : Nat) : Int) := by
  have := size_l0 l hl k 0 0 r (by omega) (by simpa using hn) h
  simpa using this
def wtI (x : S24) : Nat := wt x.f0 + wt x.f1 + x.f2.size
def wtS : List S24 → Nat
  | [] => 0
  | x :: l => wtI x + wtS l
theorem great_l0 (l : List S24) (hl : l.length ≤ 5864062014805) (hm : ∀ x ∈ l, x.f0.length ≤ 5864062014805 ∧ x.f1.length ≤ 5864062014805) : ∀ (k i n : Nat) (r : Bool), i ≤ l.length → n + wtS (l.drop i) < 1152921504606846976 → hibernaclelaw35_great.l0 k (n : Int) l (l.length : Int) (i : Int) = some r → r = decide (n + wtS (l.drop i) > 4000)
  | 0, i, n, r, hi, hn, h => by simp [hibernaclelaw35_great.l0] at h
  | k + 1, i, n, r, hi, hn, h => by
    by_cases c : i < l.length
    · have ed := List.drop_eq_getElem_cons c
      have em : rd_T24 l (i : Int) = l[i] := by simp [rd_T24, List.getD_eq_getElem?_getD, List.getElem?_eq_getElem c]
      obtain ⟨m0, m1⟩ := hm l[i] (List.getElem_mem c)
      rw [ed] at hn ⊢
      simp only [wtS, wtI] at hn ⊢
      rw [hibernaclelaw35_great.l0, if_pos (by omega), if_pos (by omega), if_pos (by omega), wrap_succ c hl, em] at h
      obtain ⟨r0, e0, h⟩ := Option.bind_eq_some_iff.1 h
      obtain ⟨r1, e1, h⟩ := Option.bind_eq_some_iff.1 h
      rw [size_f m0 (by omega) e0, size_f m1 (by omega) e1] at h
      rw [show ((wt (l[i]).f0 : Nat) : Int) + ((wt (l[i]).f1 : Nat) : Int) = ((wt (l[i]).f0 + wt (l[i]).f1 : Nat) : Int) by omega, wrap_nat (by omega), show ((wt (l[i]).f0 + wt (l[i]).f1 : Nat) : Int) + ((l[i]).f2.size : Int) = ((wt (l[i]).f0 + wt (l[i]).f1 + (l[i]).f2.size : Nat) : Int) by omega, wrap_nat (by omega), show (n : Int) + ((wt (l[i]).f0 + wt (l[i]).f1 + (l[i]).f2.size : Nat) : Int) = ((n + (wt (l[i]).f0 + wt (l[i]).f1 + (l[i]).f2.size) : Nat) : Int) by omega, wrap_nat (by omega)] at h
      have := great_l0 l hl hm k (i + 1) _ r (by omega) (by omega) h
      rw [this]
      congr 1
      exact propext (by omega)
    · obtain rfl : i = l.length := by omega
      rw [hibernaclelaw35_great.l0, if_neg (by omega)] at h
      rw [List.drop_length]
      simp only [wtS]
      rw [← Option.some.inj h]
      congr 1
      exact propext (by omega)
theorem great_no {l : List S24} {k : Nat} (hl : l.length ≤ 5864062014805) (hm : ∀ x ∈ l, x.f0.length ≤ 5864062014805 ∧ x.f1.length ≤ 5864062014805) (hn : wtS l < 1152921504606846976) (h : hibernaclelaw35_great.f k l = some false) : wtS l ≤ 4000 := by
  have := great_l0 l hl hm k 0 0 false (by omega) (by simpa using hn) h
  simp at this
  omega
theorem wtI_tot (x : S24) : wtI x ≤ 4 * (tot x.f0 + tot x.f1 + x.f2.size) := by
  have := wt_tot x.f0
  have := wt_tot x.f1
  unfold wtI
  omega
end Go.Proofs.YtoljjgabgdifbaaGreatDoor.H

namespace Go.Proofs.YtoljjgabgdifbaaGreatDoor.H
open Go.RowKit Go.Proofs.YtoljjgabgdifbaaGreatDoorW.PrintWords Go.Proofs.YtoljjgabgdifbaaGreatDoorW.PrintLast Go.Proofs.YtoljjgabgdifbaaGreatDoorW.PrintMore
set_option linter.unusedVariables false
set_option linter.unusedSimpArgs false

end Go.Proofs.YtoljjgabgdifbaaGreatDoor.H

namespace Go.Proofs.YtoljjgabgdifbaaGreatDoor.H
open Go.RowKit Go.Proofs.YtoljjgabgdifbaaGreatDoorW.PrintWords Go.Proofs.YtoljjgabgdifbaaGreatDoorW.PrintLast Go.Proofs.YtoljjgabgdifbaaGreatDoorW.PrintMore
set_option linter.unusedVariables false
set_option linter.unusedSimpArgs false

theorem loadAt_row {w : World} {g : Nat} {t ty : TypeId} {cs : Array Value} {d : TypeDesc} (hg : Blk w g t cs) (hu : Tryz.prog.underlying ty = some d) (hd : d.isRow = true) (hi : (Tryz.prog.info? ty).map (·.size) = some cs.size) :
    (Instr.loadAt ty (.pointer (some ⟨g, 0, none⟩))).run Tryz.prog w = .ok (.agg cs) w := by
  have z := run_loadAt_mid (P := Tryz.prog) w g 0 ty cs.toList d (fun j v hv => by rw [Nat.zero_add, hg.cell, ← hv]; simp) hu hd (by rw [Array.length_toList]; exact hi)
  simpa using z
end Go.Proofs.YtoljjgabgdifbaaGreatDoor.H


namespace Go.Proofs.YtoljjgabgdifbaaGreatDoor.H
open Go.RowKit Go.Proofs.YtoljjgabgdifbaaGreatDoorW.PrintWords Go.Proofs.YtoljjgabgdifbaaGreatDoorW.PrintLast Go.Proofs.YtoljjgabgdifbaaGreatDoorW.PrintMore
attribute [local go_sem] max2_int min2_int max_two min_two max_three min_three max_four min_four
set_option linter.unusedVariables false
set_option linter.unusedSimpArgs false

/-! #### A row's texts, read -/
theorem toList_mk (l : List UInt8) : (⟨l.toArray⟩ : ByteArray).toList = l := by rw [ByteArray.toList_eq]
theorem size_mk (l : List UInt8) : (⟨l.toArray⟩ : ByteArray).size = l.length := by
  show l.toArray.size = _
  rw [List.size_toArray]
theorem bt_list (s : ByteArray) (i : Nat) (c : UInt8) (r : List UInt8) (h : s.data.toList.drop i = c :: r) : i < s.size ∧ bt s (i : Int) = (c.toNat : Int) := by
  have hl := congrArg List.length h
  rw [List.length_drop, Array.length_toList, List.length_cons] at hl
  have hlt : i < s.data.size := by omega
  refine ⟨hlt, ?_⟩
  unfold bt
  rw [dif_pos (show (i : Int).toNat < s.size from hlt)]
  have e := List.drop_eq_getElem_cons (l := s.data.toList) (i := i) (by rw [Array.length_toList]; exact hlt)
  rw [h] at e
  injection e with e1 _
  rw [e1]
  rfl
theorem shl_at (i : Nat) (hi : i < 4) (x : Nat) (hx : x < 128) : shl .i64 (Int.tmod (x : Int) 128) (wrap64 (7 * (i : Int))) = ((x * 128 ^ i : Nat) : Int) := by
  have e : Int.tmod (x : Int) 128 = (x : Int) := by rw [Int.tmod_eq_emod_of_nonneg (by omega)]; omega
  rw [e]
  have h : i = 0 ∨ i = 1 ∨ i = 2 ∨ i = 3 := by omega
  unfold shl
  rcases h with rfl | rfl | rfl | rfl
  · rw [show (wrap64 (7 * ((0 : Nat) : Int))).toNat = 0 by unfold wrap64; omega, IntWalk.i64_in _ (by simp [IntKind.bits]; omega)]; simp
  · rw [show (wrap64 (7 * ((1 : Nat) : Int))).toNat = 7 by unfold wrap64; omega, IntWalk.i64_in _ (by simp [IntKind.bits]; omega)]; simp [IntKind.bits]
  · rw [show (wrap64 (7 * ((2 : Nat) : Int))).toNat = 14 by unfold wrap64; omega, IntWalk.i64_in _ (by simp [IntKind.bits]; omega)]; simp [IntKind.bits]
  · rw [show (wrap64 (7 * ((3 : Nat) : Int))).toNat = 21 by unfold wrap64; omega, IntWalk.i64_in _ (by simp [IntKind.bits]; omega)]; simp [IntKind.bits]
theorem seven_nonneg (i : Nat) (hi : i < 4) : 0 ≤ wrap64 (7 * (i : Int)) := by
  have h : i = 0 ∨ i = 1 ∨ i = 2 ∨ i = 3 := by omega
  rcases h with rfl | rfl | rfl | rfl <;> (unfold wrap64; omega)
theorem wrap_id {n : Nat} (h : n < 9223372036854775808) : wrap64 (n : Int) = (n : Int) := by
  rw [← i64_w, IntWalk.i64_in _ (by omega)]
theorem read_at (s : ByteArray) (rest : List UInt8) (hs : s.size ≤ 4611686018427387904) : ∀ (j i n acc k : Nat), i + j = 4 → 1 ≤ j → s.data.toList.drop i = lenB n ++ rest → n * 128 ^ i < 268435456 → (0 < i → 0 < n) → acc < 128 ^ i → 3 * j ≤ k →
    num_read.l0 k s (acc : Int) (s.size : Int) (i : Int) = some (((acc + n * 128 ^ i : Nat) : Int), ((i + (lenB n).length : Nat) : Int), 0)
  | 0, i, n, acc, k, hij, hj, hd, hn, h0, ha, hk => by omega
  | j + 1, i, n, acc, k, hij, hj, hd, hn, h0, ha, hk => by
    obtain ⟨k, rfl⟩ : ∃ m, k = m + 3 := ⟨k - 3, by omega⟩
    have hi4 : i < 4 := by omega
    have hp : 128 ^ i ≤ 2097152 ∧ 0 < 128 ^ i := by
      have h : i = 0 ∨ i = 1 ∨ i = 2 ∨ i = 3 := by omega
      rcases h with rfl | rfl | rfl | rfl <;> decide
    obtain ⟨c, r, hc, hcn⟩ : ∃ c r, lenB n ++ rest = c :: r ∧ (n < 128 ∧ c.toNat = n ∧ lenB n = [c] ∨ 128 ≤ n ∧ c.toNat = n % 128 + 128 ∧ r = lenB (n / 128) ++ rest ∧ (lenB n).length = (lenB (n / 128)).length + 1) := by
      rw [lenB.eq_def n]
      by_cases h : 128 ≤ n
      · rw [if_pos h]
        refine ⟨_, _, rfl, Or.inr ⟨h, ?_, rfl, by simp⟩⟩
        rw [UInt8.toNat_ofNat']
        omega
      · rw [if_neg h]
        refine ⟨_, _, rfl, Or.inl ⟨by omega, ?_, rfl⟩⟩
        rw [UInt8.toNat_ofNat']
        omega
    rw [hc] at hd
    obtain ⟨hlt, hb⟩ := bt_list s i c r hd
    have hw : wrap64 (bt s (i : Int)) = (c.toNat : Int) := by rw [hb]; exact wrap_id (by have := c.toNat_lt; omega)
    rw [num_read.l0, if_pos (by omega), if_pos (by omega), if_pos (by omega), hw]
    rcases hcn with ⟨h1, h2, h3⟩ | ⟨h1, h2, h3, h4⟩
    · have hx : ∀ q : Bool, q = false → num_read.j1 (k + 2) s (acc : Int) (i : Int) (c.toNat : Int) (s.size : Int) (i : Int) q = some (((acc + n * 128 ^ i : Nat) : Int), ((i + (lenB n).length : Nat) : Int), 0) := by
        rintro q rfl
        have hy : ∀ q : Bool, q = false → num_read.j2 (k + 1) s (acc : Int) (i : Int) (c.toNat : Int) (s.size : Int) (i : Int) q = some (((acc + n * 128 ^ i : Nat) : Int), ((i + (lenB n).length : Nat) : Int), 0) := by
          rintro q rfl
          have hm : n * 128 ^ i < 268435456 := hn
          rw [num_read.j2, if_neg (by simp), if_pos (seven_nonneg i hi4), if_pos (by omega), shl_at i hi4 _ (by omega), h2, h3, show ((acc : Int) + ((n * 128 ^ i : Nat) : Int)) = ((acc + n * 128 ^ i : Nat) : Int) by omega, wrap_id (by omega), show ((i : Int) + 1) = ((i + 1 : Nat) : Int) by omega, wrap_id (by omega)]
          rfl
        rw [num_read.j1, if_neg (by simp)]
        by_cases hi : (i : Int) > 0
        · rw [if_pos hi]
          have := h0 (by omega)
          exact hy _ (by simp; omega)
        · rw [if_neg hi]
          exact hy _ rfl
      by_cases hi : (i : Int) = 3
      · rw [if_pos hi]
        exact hx _ (by simp; omega)
      · rw [if_neg hi]
        exact hx _ rfl
    · have hi3 : i < 3 := by
        apply Classical.byContradiction
        intro h
        obtain rfl : i = 3 := by omega
        have e : (128 : Nat) ^ 3 = 2097152 := by decide
        rw [e] at hn
        omega
      have e1 : 128 ^ (i + 1) = 128 ^ i * 128 := Nat.pow_succ ..
      have hdiv : n = n / 128 * 128 + n % 128 := by omega
      have hsum : acc + n % 128 * 128 ^ i + n / 128 * 128 ^ (i + 1) = acc + n * 128 ^ i := by
        have e2 : n * 128 ^ i = (n / 128 * 128 + n % 128) * 128 ^ i := by rw [← hdiv]
        rw [e1, e2, Nat.add_mul, Nat.mul_comm (128 ^ i) 128, ← Nat.mul_assoc]
        omega
      have hmul : n % 128 * 128 ^ i ≤ 127 * 128 ^ i := Nat.mul_le_mul_right _ (by omega)
      have hd2 : s.data.toList.drop (i + 1) = lenB (n / 128) ++ rest := by
        rw [← h3, ← List.drop_drop, hd]
        rfl
      have hn2 : n / 128 * 128 ^ (i + 1) < 268435456 := by omega
      have ih := read_at s rest hs j (i + 1) (n / 128) (acc + n % 128 * 128 ^ i) k (by omega) (by omega) hd2 hn2 (by omega) (by omega) (by omega)
      rw [hsum] at ih
      have hacc : wrap64 ((acc : Int) + ((n % 128 * 128 ^ i : Nat) : Int)) = ((acc + n % 128 * 128 ^ i : Nat) : Int) := by
        rw [show ((acc : Int) + ((n % 128 * 128 ^ i : Nat) : Int)) = ((acc + n % 128 * 128 ^ i : Nat) : Int) by omega]
        exact wrap_id (by omega)
      have hy : num_read.j2 (k + 1) s (acc : Int) (i : Int) (c.toNat : Int) (s.size : Int) (i : Int) false = some (((acc + n * 128 ^ i : Nat) : Int), ((i + (lenB n).length : Nat) : Int), 0) := by
        have hsh : shl .i64 (Int.tmod (c.toNat : Int) 128) (wrap64 (7 * (i : Int))) = ((n % 128 * 128 ^ i : Nat) : Int) := by
          rw [← shl_at i hi4 (n % 128) (by omega)]
          congr 1
          rw [Int.tmod_eq_emod_of_nonneg (by omega), Int.tmod_eq_emod_of_nonneg (by omega), h2]
          omega
        rw [num_read.j2, if_neg (by simp), if_pos (seven_nonneg i hi4), if_neg (by omega), hsh, hacc, show ((i : Int) + 1) = ((i + 1 : Nat) : Int) by omega, wrap_id (by omega), ih]
        congr 2
        congr 1
        omega
      have hx : num_read.j1 (k + 2) s (acc : Int) (i : Int) (c.toNat : Int) (s.size : Int) (i : Int) false = some (((acc + n * 128 ^ i : Nat) : Int), ((i + (lenB n).length : Nat) : Int), 0) := by
        rw [num_read.j1, if_neg (by simp)]
        by_cases hi : (i : Int) > 0
        · rw [if_pos hi, show ((c.toNat : Int) == 0) = false by simp; omega]
          exact hy
        · rw [if_neg hi]
          exact hy
      rw [if_neg (by omega)]
      exact hx
theorem read_row (s : ByteArray) (rest : List UInt8) (n k : Nat) (hs : s.size ≤ 4611686018427387904) (hd : s.data.toList = lenB n ++ rest) (hn : n < 268435456) (hk : 12 ≤ k) : num_read.f k s = some ((n : Int), ((lenB n).length : Int), 0) := by
  have h := read_at s rest hs 4 0 n 0 k rfl (by omega) (by rw [List.drop_zero]; exact hd) (by simpa using hn) (by omega) (by decide) (by omega)
  unfold num_read.f
  simpa using h
theorem extract_mid (a b c : List UInt8) : (⟨(a ++ b ++ c).toArray⟩ : ByteArray).extract a.length (a.length + b.length) = ⟨b.toArray⟩ := by
  apply ByteArray.ext
  rw [ByteArray.data_extract]
  simp
theorem extract_end (a c : List UInt8) (m : Nat) (hm : m = a.length + c.length) : (⟨(a ++ c).toArray⟩ : ByteArray).extract a.length m = ⟨c.toArray⟩ := by
  subst hm
  apply ByteArray.ext
  rw [ByteArray.data_extract]
  simp
theorem texts_at : ∀ (l acc : List ByteArray) (k : Nat), l.length + 13 ≤ k → (∀ s ∈ l, s.size < 268435456) → (rowB l).length ≤ 4611686018427387904 → acc.length + l.length ≤ 8796093022208 →
    num_Texts.l0 k ⟨(rowB l).toArray⟩ acc = some (acc ++ l, 0)
  | [], acc, k, hk, hs, hr, ha => by
    obtain ⟨k, rfl⟩ : ∃ m, k = m + 1 := ⟨k - 1, by omega⟩
    rw [num_Texts.l0, if_pos (by rw [toList_mk]; rfl)]
    simp
  | s :: l, acc, k, hk, hs, hr, ha => by
    obtain ⟨k, rfl⟩ : ∃ m, k = m + 1 := ⟨k - 1, by simp at hk; omega⟩
    have hss := hs s (by simp)
    simp only [List.length_cons] at hk ha
    have hlen : (rowB (s :: l)).length = (lenB s.size).length + s.size + (rowB l).length := by
      simp only [rowB, List.length_append, Array.length_toList]
      rfl
    have hsz := size_mk (rowB (s :: l))
    have hrd := read_row ⟨(rowB (s :: l)).toArray⟩ (s.data.toList ++ rowB l) s.size k (by rw [hsz]; exact hr) (by show rowB (s :: l) = _; rw [rowB, List.append_assoc]) hss (by omega)
    rw [num_Texts.l0, if_neg (by rw [toList_mk, rowB, List.append_assoc]; exact fun h => lenB_ne _ (List.append_eq_nil_iff.1 h).1), hrd, Option.bind_some]
    dsimp only
    rw [if_pos rfl, hsz, hlen]
    have e1 : wrap64 ((((lenB s.size).length + s.size + (rowB l).length : Nat) : Int) - ((lenB s.size).length : Int)) = ((s.size + (rowB l).length : Nat) : Int) := by
      rw [show ((((lenB s.size).length + s.size + (rowB l).length : Nat) : Int) - ((lenB s.size).length : Int)) = ((s.size + (rowB l).length : Nat) : Int) by omega]
      exact wrap_id (by omega)
    have e2 : wrap64 (((lenB s.size).length : Int) + (s.size : Int)) = (((lenB s.size).length + s.size : Nat) : Int) := by
      rw [show (((lenB s.size).length : Int) + (s.size : Int)) = (((lenB s.size).length + s.size : Nat) : Int) by omega]
      exact wrap_id (by omega)
    rw [if_neg (by rw [e1]; omega), if_pos (by omega)]
    simp only [e2]
    rw [if_pos (by omega), if_pos (by omega), if_pos (by omega), if_pos (by omega)]
    have x1 : (⟨(rowB (s :: l)).toArray⟩ : ByteArray).extract ((lenB s.size).length : Int).toNat ((((lenB s.size).length + s.size : Nat) : Int)).toNat = s := by
      rw [Int.toNat_natCast, Int.toNat_natCast]
      have := extract_mid (lenB s.size) s.data.toList (rowB l)
      rw [Array.length_toList] at this
      exact this
    have x2 : (⟨(rowB (s :: l)).toArray⟩ : ByteArray).extract ((((lenB s.size).length + s.size : Nat) : Int)).toNat ((lenB s.size).length + s.size + (rowB l).length) = ⟨(rowB l).toArray⟩ := by
      rw [Int.toNat_natCast]
      have := extract_end (lenB s.size ++ s.data.toList) (rowB l) ((lenB s.size).length + s.size + (rowB l).length) (by rw [List.length_append, Array.length_toList]; rfl)
      rw [List.length_append, Array.length_toList] at this
      exact this
    rw [x1, x2]
    have ih := texts_at l (acc ++ [s]) k (by omega) (fun t ht => hs t (by simp [ht])) (by omega) (by simp; omega)
    rw [ih, List.append_assoc]
    rfl
theorem texts_row (l : List ByteArray) (k : Nat) (hk : l.length + 13 ≤ k) (hs : ∀ s ∈ l, s.size < 268435456) (hr : (rowB l).length ≤ 4611686018427387904) (ha : l.length ≤ 8796093022208) : num_Texts.f k ⟨(rowB l).toArray⟩ = some (l, 0) := by
  have h := texts_at l [] k hk hs hr (by simpa using ha)
  rw [List.nil_append] at h
  exact h

/-! #### A decimal text, read -/
theorem parse_dec : ∀ (u : Nat) (r : List UInt8), u ≤ 9223372036854775807 → Lib.parseUintM 18446744073709551615 0 (Lib.decDigits u ++ r) = Lib.parseUintM 18446744073709551615 u r := by
  intro u
  induction u using Nat.strongRecOn with
  | ind u ih =>
    intro r hu
    rw [Lib.decDigits]
    split
    · rename_i h
      have e : (UInt8.ofNat (48 + u)).toNat = 48 + u := by rw [UInt8.toNat_ofNat']; omega
      show Lib.parseUintM _ 0 (UInt8.ofNat (48 + u) :: r) = _
      rw [Lib.parseUintM, e, if_pos (by omega), if_neg (by omega), if_neg (by omega)]
      congr 1
      omega
    · rename_i h
      have e : (UInt8.ofNat (48 + u % 10)).toNat = 48 + u % 10 := by rw [UInt8.toNat_ofNat']; omega
      rw [List.append_assoc, ih (u / 10) (by omega) _ (by omega)]
      show Lib.parseUintM _ (u / 10) (UInt8.ofNat (48 + u % 10) :: r) = _
      rw [Lib.parseUintM, e, if_pos (by omega), if_neg (by omega), if_neg (by omega)]
      congr 1
      omega
theorem dec_head : ∀ u : Nat, ∃ c r, Lib.decDigits u = c :: r ∧ 48 ≤ c.toNat := by
  intro u
  induction u using Nat.strongRecOn with
  | ind u ih =>
    rw [Lib.decDigits]
    split
    · exact ⟨_, _, rfl, by rw [UInt8.toNat_ofNat']; omega⟩
    · obtain ⟨c, r, h, hc⟩ := ih (u / 10) (by omega)
      rw [h]
      exact ⟨c, _, rfl, hc⟩
theorem parse_itoa (n : Int) (h0 : 0 ≤ n) (h1 : n ≤ 9223372036854775807) : Lib.parseIntB 64 (Lib.itoa n) = .ok n := by
  have hp := parse_dec n.toNat [] (by omega)
  obtain ⟨c, r, hc, hge⟩ := dec_head n.toNat
  have e : Lib.itoa n = Lib.decDigits n.toNat := by rw [Lib.itoa, if_neg (by omega)]
  rw [e]
  rw [List.append_nil] at hp
  rw [hc] at hp ⊢
  have e64 : (2 : Nat) ^ (64 - 1) = 9223372036854775808 := by decide
  have e65 : (2 : Nat) ^ 64 - 1 = 18446744073709551615 := by decide
  unfold Lib.parseIntB
  simp only [e64]
  rw [if_neg (by omega), Lib.parseUintB, if_neg (by simp), e65, hp, Lib.parseUintM]
  simp only
  rw [if_neg (by omega), if_neg (by omega), if_neg (by omega)]
  congr 1
  omega
theorem intP_itoa (n : Int) (h0 : 0 ≤ n) (h1 : n ≤ 9223372036854775807) : intP ⟨(Lib.itoa n).toArray⟩ = (n, true) := by
  unfold intP
  rw [show (⟨(Lib.itoa n).toArray⟩ : ByteArray).data.toList = Lib.itoa n from rfl, parse_itoa n h0 h1]
  simp
theorem dec_len : ∀ (k u : Nat), u < 10 ^ k → 1 ≤ k → (Lib.decDigits u).length ≤ k
  | 0, u, h, hk => by omega
  | k + 1, u, h, hk => by
    rw [Lib.decDigits]
    split
    · simp
    · rename_i hu
      have e : 10 ^ (k + 1) = 10 ^ k * 10 := Nat.pow_succ ..
      have hk1 : 1 ≤ k := by
        apply Classical.byContradiction
        intro hn
        obtain rfl : k = 0 := by omega
        simp at h
        omega
      have := dec_len k (u / 10) (by omega) hk1
      rw [List.length_append]
      simp
      omega
theorem itoa_len (n : Int) (h0 : 0 ≤ n) (h1 : n ≤ 9223372036854775807) : (Lib.itoa n).length ≤ 19 := by
  rw [Lib.itoa, if_neg (by omega)]
  exact dec_len 19 n.toNat (by have : (10 : Nat) ^ 19 = 10000000000000000000 := by decide
                               omega) (by omega)
end Go.Proofs.YtoljjgabgdifbaaGreatDoor.H


namespace Go.Proofs.YtoljjgabgdifbaaGreatDoor.H
open Go.RowKit Go.Proofs.YtoljjgabgdifbaaGreatDoorW.PrintWords Go.Proofs.YtoljjgabgdifbaaGreatDoorW.PrintLast Go.Proofs.YtoljjgabgdifbaaGreatDoorW.PrintMore
attribute [local go_sem] max2_int min2_int max_two min_two max_three min_three max_four min_four
set_option linter.unusedVariables false
set_option linter.unusedSimpArgs false

def okAll (g : ByteArray → S46 × Bool) (l : List ByteArray) : Bool := l.all fun s => (g s).2
theorem okAll_step (g : ByteArray → S46 × Bool) (l : List ByteArray) (i : Nat) (h : i < l.length) : okAll g (l.take (i + 1)) = (okAll g (l.take i) && (g l[i]).2) := by
  unfold okAll
  rw [List.take_add_one, List.getElem?_eq_getElem h, List.all_append]
  simp
theorem okAll_not (g : ByteArray → S46 × Bool) (l : List ByteArray) (i : Nat) (h : i < l.length) (hn : (g l[i]).2 = false) : okAll g l = false := by
  unfold okAll
  rw [List.all_eq_false]
  exact ⟨l[i], List.getElem_mem _, by simp [hn]⟩
theorem rdOf_lt (l : List ByteArray) (i : Nat) (h : i < l.length) : rdOf ByteArray.empty l (i : Int) = l[i] := by simp [rdOf, h]

/-- What the writes of a row of rows are, and whether all may be read. -/
def EachPost (g : ByteArray → S46 × Bool) (l : List ByteArray) (er : Int) (w : World) (e : Ending) (w' : World) : Prop :=
  ∃ v, e = .returned (.tuple #[v, .bool (okAll g l && decide (er = 0))]) ∧ Kd.R k46 46 w' w.heap.size (fun _ => True) v (if okAll g l then l.map (fun t => (g t).1) else []) ∧ Below w.heap.size w w'
theorem EachPost.no {g : ByteArray → S46 × Bool} {l : List ByteArray} {er : Int} {w w' : World} (h : okAll g l = false) (hb : Below w.heap.size w w') : EachPost g l er w (.returned (.tuple #[.slice none 0 0, .bool false])) w' := by
  unfold EachPost
  rw [h]
  exact ⟨_, rfl, Kd.R_nil _ _ _ _ _, hb⟩
theorem EachPost.yes {g : ByteArray → S46 × Bool} {l : List ByteArray} {er : Int} {w w' : World} {v : Value} {b : Bool} (h : okAll g l = true) (h2 : decide (er = 0) = b) (hR : Kd.R k46 46 w' w.heap.size (fun _ => True) v (l.map (fun t => (g t).1))) (hb : Below w.heap.size w w') : EachPost g l er w (.returned (.tuple #[v, .bool b])) w' := by
  unfold EachPost
  rw [h, h2]
  exact ⟨_, rfl, hR, hb⟩

set_option maxHeartbeats 8000000 in
set_option maxRecDepth 100000 in
theorem each_calls (k : Nat) (s : ByteArray) (l : List ByteArray) (er : Int) (g : ByteArray → S46 × Bool) (w : World) (hT : num_Texts.f k s = some (l, er))
    (hg : ∀ t ∈ l, ∃ kk ts e2, num_Texts.f kk t = some (ts, e2) ∧ (∀ u ∈ ts, u.size ≤ 281474976710656) ∧ g t = rwOf ts e2) (hlen : l.length ≤ 5000000000000) (hv : Vars w) :
    Calls Tryz.prog 23 #[.string s, .func (.func 24) #[] #[]] w fun e w' => EachPost g l er w e w' := by
  have hu46 := Tryz.underlying46
  have HV := Aside0.mk hv
  have HG := Aside0.mk hg
  have LM := Aside0.mk hlen
  have TC := Aside0.mk (num_Texts.calls k s l er w hT)
  clear hv hg hT
  go_enter Tryz.func23, Tryz.ntmps23
  go_wp2_with (first | (go_at_call 22; (with_reducible refine TC.out.mono ?_); rintro e w1 ⟨v, rfl, hR, hb⟩; obtain ⟨A, c, rfl, hlc, hC⟩ := R_slice hR; have C1 := Aside0.mk hC; have LC := Aside0.mk hlc; have W1 := Aside0.mk hb; have V1 := Aside0.mk (Vars.below HV.out W1.out); clear hR hb hC hlc TC))
  go_loopg [8, 20] l.length (fun gk v8 v20 wr => ∃ i : Nat, v20 = .int .i64 i ∧ Aside0 (i + gk = l.length) ∧ Aside0 (okAll g (l.take i) = true) ∧ Aside0 (Kd.R k46 46 wr w1.heap.size (fun _ => True) v8 ((l.take i).map fun t => (g t).1)) ∧ Aside0 (Below w1.heap.size w1 wr))
  case atStart => exact ⟨0, rfl, ⟨by omega⟩, ⟨rfl⟩, ⟨Kd.R_nil _ _ _ _ _⟩, ⟨Below.refl _ _⟩⟩
  case round =>
    obtain ⟨i, rfl, hi, OK, HO, WB⟩ := hrel
    by_cases hlt : i < l.length
    · have b1 := eq_true (show (i : Int) < (l.length : Int) by omega)
      have b2 := eq_true (show (0 : Int) ≤ (i : Int) by omega)
      obtain ⟨ad, eA, hx0⟩ := Kd.at_string (Kd.C_below C1.out WB.out) (i : Int) (by omega) (by omega)
      cases eA
      rw [Int.toNat_natCast, rdOf_lt l i hlt] at hx0
      obtain ⟨kk, ts, e2, hTt, hts, hgt⟩ := HG.out l[i] (List.getElem_mem _)
      have hs := okAll_step g l i hlt
      rw [OK.out, Bool.true_and] at hs
      have hno := okAll_not g l i hlt
      have et : (l.take (i + 1)).map (fun t => (g t).1) = (l.take i).map (fun t => (g t).1) ++ [(g l[i]).1] := by
        rw [List.take_add_one, List.getElem?_eq_getElem hlt, List.map_append]
        rfl
      have V2 := Vars.below V1.out WB.out
      have RC := readWrite_calls kk l[i] ts e2 wr hTt hts V2
      rw [← hgt] at RC
      generalize g l[i] = q at hs hno et RC
      generalize l[i] = t at hx0 RC
      obtain ⟨x, bq⟩ := q
      have RC := Aside0.mk RC
      have ET := Aside0.mk et
      have HS := Aside0.mk hs
      have HNO := Aside0.mk hno
      clear hTt hts hgt hs hno et V2
      cases bq
      · go_wp2_with (first | (go_at_call 24; (with_reducible refine RC.out.mono ?_); rintro e w2 ⟨rfl, hb⟩; have BWb := Aside0.mk (below_then WB.out WB.out.size hb); clear hb) | ((with_reducible refine RC.out.mono ?_); rintro e w2 ⟨rfl, hb⟩; have BWb := Aside0.mk (below_then WB.out WB.out.size hb); clear hb))
        go_wp2_with fail
        go_ret2
        exact EachPost.no (HNO.out (by first | trivial | rfl)) ((below_then W1.out W1.out.size (BWb.out)).alloc (by have := W1.out.size; have := BWb.out.size; omega) _)
      · go_wp2_with (first | ((with_reducible refine RC.out.mono ?_); rintro e w2 ⟨rfl, hb⟩; have BWb := Aside0.mk ((below_then WB.out WB.out.size hb).alloc (by have := WB.out.size; have := hb.size; omega) (.cells #[.int .i64 x.f0, .string x.f1] 46)); have HOb := Aside0.mk (Kd.R_alloc (Kd.R_below HO.out hb) (.cells #[.int .i64 x.f0, .string x.f1] 46)); have BK := Blk.new w2 46 #[.int .i64 x.f0, .string x.f1]; clear hb; generalize hwa : w2.alloc (.cells #[.int .i64 x.f0, .string x.f1] 46) = wa at BK BWb HOb; have HWA := Aside0.mk hwa; clear hwa; have k0 : wa.cell? ⟨w2.heap.size, 0, none⟩ = some (.int .i64 x.f0) := BK.cell 0; have k1 : wa.cell? ⟨w2.heap.size, 1, none⟩ = some (.string x.f1) := BK.cell 1; clear BK) | (rw [show w2.alloc (.cells #[.int .i64 x.f0, .string x.f1] 46) = wa from HWA.out]) | ((with_reducible refine gate_builtin (b := .append) (xs := #[.tmp 32, .tmp 34]) rfl ?_); at_builtin; refine Kd.R_append k46 (w0 := w1) w1.heap.size rfl (.tmp 32) (.tmp 34) 29 46 (.agg #[(.int .i64 0), (.string ⟨#[]⟩)]) 24 rfl Tryz.underlying29 info46 rfl (by decide) (by omega) u8 ((l.take i).map fun t => (g t).1) x [.int .i64 x.f0, .string x.f1] (fun _ => True) (fun _ => False) rfl rfl ?aP (fun _ hk => hk.elim) ?aF ?aO ?aB ?aS ?aL ?_; (case aP => exact k46_mkM _ _ _ x); (case aB => exact BWb.out); (case aF => exact (fun _ _ => trivial)); (case aO => exact HOb.out); (case aS => exact BWb.out.size); (case aL => rw [List.length_map, List.length_take]; have := LM.out; omega); intro v245 w13 ho hb hg hat; have n2_ := Aside0.mk hb; have n1_ := Aside0.mk (ho); clear BWb HOb; have BWb := n2_; have HOb := n1_; clear n2_ n1_ ho hb hg hat))
        go_wp2_with fail
        go_roundg (l.length - i - 1)
        case measure => have := hi.out; omega
        case rel => exact ⟨i + 1, by have := LM.out; go_num, ⟨by have := hi.out; omega⟩, HS, ⟨by rw [ET.out]; exact HOb.out⟩, BWb⟩
    · obtain rfl : i = l.length := by have := hi.out; omega
      have b1 := eq_false (show ¬ (l.length : Int) < (l.length : Int) by omega)
      have HO := HO.out
      have OK := OK.out
      rw [List.take_length] at HO OK
      have OK2 := Aside0.mk OK
      have HO2 := Aside0.mk (Kd.R_lower HO W1.out.size)
      have W2 := Aside0.mk (below_then W1.out W1.out.size WB.out)
      clear HO OK
      by_cases he : er = 0
      · subst he
        go_wp2_with fail
        go_ret2
        exact EachPost.yes OK2.out rfl HO2.out W2.out
      · have c1 : (er == 0) = false := by simpa using he
        go_wp2_with fail
        go_ret2
        exact EachPost.yes OK2.out (decide_eq_false he) HO2.out W2.out
end Go.Proofs.YtoljjgabgdifbaaGreatDoor.H

