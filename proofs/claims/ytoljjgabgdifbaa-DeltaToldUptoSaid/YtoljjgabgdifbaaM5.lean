/- Layer 35's statement DeltaTold: the plain law and the walk. -/
import Derived.Test.YtoljjgabgdifbaaM4
import Derived.Test.YtoljjgabgdifbaaG2
import Derived.Test.YtoljjgabgdifbaaM2
import Derived.Test.YtoljjgabgdifbaaM3
import Derived.Laws.ResultCell
namespace Go.Proofs.Ytoljjgabgdifbaa.H
open Go.RowKit Go.Proofs.YtoljjgabgdifbaaW.PrintWords Go.Proofs.YtoljjgabgdifbaaW.PrintLast Go.Proofs.YtoljjgabgdifbaaW.PrintMore
attribute [local go_sem] max2_int min2_int max_two min_two max_three min_three max_four min_four
set_option linter.unusedVariables false
set_option linter.unusedSimpArgs false
theorem info9a : (Try.prog.info? 9).map (fun i => (i.zero, i.size, i.bytes)) = some (some (.string ⟨#[]⟩), 1, 16) := by kernel_rfl
/-! ### hibernacleref02_Apart: function 29 -/
noncomputable def hibernacleref02_Apart.f (l0 : List ByteArray) : Option Bool := if 0 < l0.length then (if l0.length ≤ 1048576 then (if (l0.all fun s => decide (s.size ≤ 140737488355328)) = true then some (aptB l0) else none) else none) else none
theorem hibernacleref02_Apart.calls (A0 : Option Addr) (c0 : Nat) (l0 : List ByteArray) (r : Bool) (w : World) (hr0 : Kd.C Kd.string w A0 l0.length l0) (hc0 : l0.length ≤ c0) (h : hibernacleref02_Apart.f l0 = some r) :
    Calls Try.prog 29 #[.slice A0 l0.length c0] w fun e w' => e = .returned (.bool r) ∧ Below w.heap.size w w' := by
  unfold hibernacleref02_Apart.f at h
  split at h
  case isFalse => cases h
  case isTrue h0 =>
  split at h
  case isFalse => cases h
  case isTrue h1 =>
  split at h
  case isFalse => cases h
  case isTrue h2 =>
  cases h
  refine rApart_calls A0 c0 l0 w hr0 hc0 h1 h0 (fun j => ?_)
  rcases Nat.lt_or_ge j l0.length with hj | hj
  · have e : at_ l0 j = l0[j] := by simp [at_, List.getD_eq_getElem?_getD, List.getElem?_eq_getElem hj]
    rw [e]
    simpa using List.all_eq_true.1 h2 l0[j] (List.getElem_mem hj)
  · have e : at_ l0 j = ByteArray.empty := by simp [at_, List.getD_eq_getElem?_getD, List.getElem?_eq_none hj]
    rw [e]
    decide

/-! ### hibernaclelaw35_apart: function 14 -/
noncomputable def hibernaclelaw35_apart.l0 : Nat → List ByteArray → List (S24) → Int → Int → Option (Bool)
  | 0, _, _, _, _ => none
  | k + 1, x3, x9, x10, x11 => if x11 < x10 then (if 0 ≤ x11 then (if x11 < (x9.length : Int) then ((hibernacleref32_Bytes.f k ((rd_T24 x9 x11).f0) ((rd_T24 x9 x11).f1) ((rd_T24 x9 x11).f2)).bind fun t251 => (if x3.length < 8796093022208 then (hibernaclelaw35_apart.l0 k (x3 ++ [t251]) x9 x10 (wrap64 (x11 + 1))) else (none))) else (none)) else (none)) else ((hibernacleref02_Apart.f x3).bind fun t255 => (some t255))
noncomputable def hibernaclelaw35_apart.f (k : Nat) (l0 : List (S24)) : Option (Bool) := (hibernacleref32_Bytes.f k ([] : List ByteArray) ([] : List ByteArray) (⟨#[]⟩ : ByteArray)).bind fun t245 => (hibernaclelaw35_apart.l0 k (([t245] : List ByteArray)) l0 (l0.length : Int) 0)
theorem hibernaclelaw35_apart.mono_l : ∀ k, (∀ y0 y1 y2 y3, LeO (hibernaclelaw35_apart.l0 k y0 y1 y2 y3) (hibernaclelaw35_apart.l0 (k + 1) y0 y1 y2 y3))
  | 0 => fun _ _ _ _ r h => by simp [hibernaclelaw35_apart.l0] at h
  | k + 1 => by
    have ih0 := hibernaclelaw35_apart.mono_l k
    · intro y0 y1 y2 y3
      unfold hibernaclelaw35_apart.l0
      repeat' first
      | (with_reducible exact ih0 _ _ _ _)
      | (with_reducible exact hibernacleref32_Bytes.mono _ _ _ _)
      | (with_reducible exact LeO.refl _)
      | (with_reducible exact LeO.none _)
      | (with_reducible refine LeO.ite ?_ ?_)
      | (with_reducible refine LeO.bind ?_ (fun _ => ?_))
      | exact ih0 _ _ _ _
      | exact hibernacleref32_Bytes.mono _ _ _ _
      | exact LeO.none _
      | refine LeO.ite ?_ ?_
      | refine LeO.bind ?_ (fun _ => ?_)
theorem hibernaclelaw35_apart.mono : ∀ a0 k, LeO (hibernaclelaw35_apart.f k a0) (hibernaclelaw35_apart.f (k + 1) a0) := by
  intro a0 k
  have ih0 := hibernaclelaw35_apart.mono_l k
  unfold hibernaclelaw35_apart.f
  repeat' first
      | (with_reducible exact ih0 _ _ _ _)
      | (with_reducible exact hibernacleref32_Bytes.mono _ _ _ _)
      | (with_reducible exact LeO.refl _)
      | (with_reducible exact LeO.none _)
      | (with_reducible refine LeO.ite ?_ ?_)
      | (with_reducible refine LeO.bind ?_ (fun _ => ?_))
      | exact ih0 _ _ _ _
      | exact hibernacleref32_Bytes.mono _ _ _ _
      | exact LeO.none _
      | refine LeO.ite ?_ ?_
      | refine LeO.bind ?_ (fun _ => ?_)
set_option maxHeartbeats 8000000 in
set_option maxRecDepth 100000 in
theorem hibernaclelaw35_apart.calls (k : Nat) (A0 : Option Addr) (c0 : Nat) (l0 : List (S24)) (r : Bool) (w : World) (hr0 : Kd.C k24 w A0 l0.length l0) (hc0 : l0.length ≤ c0) (h : hibernaclelaw35_apart.f k l0 = some r) :
    Calls Try.prog 14 #[.slice A0 l0.length c0] w fun e w' => e = .returned (.bool r) ∧ Below w.heap.size w w' := by
  have hu24 := Try.underlying24
  have HR0 := Aside0.mk hr0
  have HC0 := Aside0.mk hc0
  clear hr0 hc0
  have HB := Aside0.mk (Below.refl w.heap.size w)
  have H : ((hibernacleref32_Bytes.f k ([] : List ByteArray) ([] : List ByteArray) (⟨#[]⟩ : ByteArray)).bind fun t245 => (hibernaclelaw35_apart.l0 k (([t245] : List ByteArray)) l0 (l0.length : Int) 0)) = some r := h
  clear h
  replace H := Option.bind_eq_some_iff.mp H
  obtain ⟨t245, A20, H⟩ := H
  replace H : (hibernaclelaw35_apart.l0 k (([t245] : List ByteArray)) l0 (l0.length : Int) 0) = some r := H
  have A2 := Aside0.mk A20
  clear A20
  obtain ⟨y246, hy246⟩ : ∃ y_ : List ByteArray, y_ = (([t245] : List ByteArray)) := ⟨_, rfl⟩
  replace H : (hibernaclelaw35_apart.l0 k y246 l0 (l0.length : Int) 0) = some r := by first | (rw [hy246]; with_reducible exact H) | (have H2_ := (Option.bind_some _ _).symm.trans H; rw [hy246]; with_reducible exact H2_) | (have H2_ := (Option.bind_some _ _).symm.trans H; with_reducible exact H2_) | with_reducible exact H | (rw [hy246]; exact H) | exact H
  have Ny246 := Aside0.mk hy246
  clear hy246
  have H' := Aside0.mk H
  clear H
  go_enter Try.func14, Try.ntmps14
  go_wp2_with (first | ((with_reducible refine gate_callee (f := 28) rfl ?_); refine goesL_ (some 7) rfl rfl Try.func28 (by kernel_rfl) rfl #[.agg #[.slice none 0 0, .slice none 0 0, .string (⟨#[]⟩ : ByteArray)]] rfl (by (try simp only [List.map_toArray, List.map_cons, List.map_nil]); first | done | rfl | (simp only [List.length_drop, List.length_take]; rfl)) ?_; (refine (hibernacleref32_Bytes.calls k _ _ ([] : List ByteArray) _ _ ([] : List ByteArray) (⟨#[]⟩ : ByteArray) t245 _ ?side1 ?side2 ?side3 ?side4 A2.out).mono ?_); (case side1 => exact Kd.C_nil _ _); (case side2 => exact Nat.le_refl _); (case side3 => exact Kd.C_nil _ _); (case side4 => exact Nat.le_refl _); rintro e w3 ⟨rfl, hb⟩; refine ⟨_, rfl, ?_⟩; have n0_ := Aside0.mk (below_step (by repeat (first | (with_reducible first | exact HB.out | apply below_alloc | apply pw_below_drewN | apply below_drew1) | exact HB.out)) hb); clear HB; have HB := n0_; clear n0_; (try clear hb); (try clear hb2); (try clear hk); (try clear hi)) | ((with_reducible refine gate_dst (N := 8) rfl ?_); refine Kd.R_lit Kd.string _ 9 ?hg (N := 8) ?hd (xs := ([t245] : List ByteArray)) (inner := [.string t245]) (ok := fun _ => True) (okp := fun _ => True) ?hr ?hp (fun _ hk => hk) trivial (Below.refl _ _) (Nat.le_refl _) (by simp) ?_; (case hd => rfl); (case hg => rfl); (case hr => first | (go_simp; done) | (go_simp; rfl)); (case hp => exact (Reps.one (show Kd.M Kd.string _ _ _ t245 [.string t245] from rfl) (Reps.none _ _))); intro v247 w4 ho5 hb hg_ hnew_; clear hg_ hnew_; (first | rw [← Ny246.out] at ho5 | (simp only [Int.reduceToNat] at ho5; rw [← Ny246.out] at ho5)); have n0_ := Aside0.mk (Kd.R_lower ho5 (below_size (by repeat (first | (with_reducible first | exact HB.out | apply below_alloc | apply pw_below_drewN | apply below_drew1) | exact HB.out)))); have n1_ := Aside0.mk (below_step (by repeat (first | (with_reducible first | exact HB.out | apply below_alloc | apply pw_below_drewN | apply below_drew1) | exact HB.out)) hb); clear HB; have HO248 := n0_; have HB := n1_; clear n0_ n1_; clear hb ho5))
  go_loopg [3, 11] k (fun kq v3 v11 w' => ∃ (x3_1 : List ByteArray) (x11_1 : Int), v11 = .int .i64 x11_1 ∧ Aside0 (hibernaclelaw35_apart.l0 kq x3_1 l0 (l0.length : Int) x11_1 = some r) ∧ Aside0 (kq ≤ k) ∧ Aside0 (Kd.R Kd.string 9 w' w.heap.size (fun _ => True) v3 x3_1) ∧ Aside0 (Below w.heap.size w w'))
  case atStart => exact ⟨(y246), (0), (by first | rfl | (simp; done) | (simp [*]; done)), H', ⟨Nat.le_refl _⟩, ⟨by (with_reducible repeat (first | apply Kd.R_alloc | apply Kd.R_drewN | apply Kd.R_drew)); exact HO248.out⟩, ⟨by repeat (first | (with_reducible first | exact HB.out | apply below_alloc | apply pw_below_drewN | apply below_drew1) | exact HB.out)⟩⟩
  case round =>
    clear H'
    try clear c1
    try clear c2
    try clear p2
    obtain ⟨x3_1, x11_1, rfl, HA, HK1, HO_3, HB⟩ := hrel
    cases gk with
    | zero => exact absurd HA.out (by simp [hibernaclelaw35_apart.l0])
    | succ k1 =>
      have H := HA.out
      clear HA
      simp only [hibernaclelaw35_apart.l0] at H
      by_cases c6 : x11_1 < (l0.length : Int)
      · rw [if_pos c6] at H
        have c6b0 : decide (x11_1 < (l0.length : Int)) = true := decide_eq_true c6
        clear c6
        by_cases c7 : 0 ≤ x11_1
        · rw [if_pos c7] at H
          have c7b0 : decide (0 ≤ x11_1) = true := decide_eq_true c7
          clear c7
          by_cases c8 : x11_1 < (l0.length : Int)
          · rw [if_pos c8] at H
            have c8b0 : decide (x11_1 < (l0.length : Int)) = true := decide_eq_true c8
            clear c8
            replace H := Option.bind_eq_some_iff.mp H
            obtain ⟨t251, A90, H⟩ := H
            replace H : (if x3_1.length < 8796093022208 then (hibernaclelaw35_apart.l0 k1 (x3_1 ++ [t251]) l0 (l0.length : Int) (wrap64 (x11_1 + 1))) else (none)) = some r := H
            have A9 := Aside0.mk A90
            clear A90
            by_cases c10 : x3_1.length < 8796093022208
            · rw [if_pos c10] at H
              have LMc10 := Aside0.mk c10
              clear c10
              obtain ⟨y252, hy252⟩ : ∃ y_ : List ByteArray, y_ = (x3_1 ++ [t251]) := ⟨_, rfl⟩
              replace H : (hibernaclelaw35_apart.l0 k1 y252 l0 (l0.length : Int) (wrap64 (x11_1 + 1))) = some r := by first | (rw [hy252]; with_reducible exact H) | (have H2_ := (Option.bind_some _ _).symm.trans H; rw [hy252]; with_reducible exact H2_) | (have H2_ := (Option.bind_some _ _).symm.trans H; with_reducible exact H2_) | with_reducible exact H | (rw [hy252]; exact H) | exact H
              have Ny252 := Aside0.mk hy252
              clear hy252
              have H' := Aside0.mk H
              clear H
              have p249 : 0 ≤ (x11_1 : Int) := of_decide_eq_true (by first | (with_reducible assumption) | assumption)
              have q249 : x11_1 < (l0.length : Int) := of_decide_eq_true (by first | (with_reducible assumption) | assumption)
              obtain ⟨ad249, A249_0, c249_0, A249_1, c249_1, e249, hx249_0, hx249_1, hx249_2, hl249_0, hi249_0, hl249_1, hi249_1⟩ := at_T24 HR0.out x11_1 p249 q249
              cases e249
              replace hx249_0 := (HB.out.cell (World.block_lt_of_cell? w _ hx249_0)).trans hx249_0
              replace hx249_1 := (HB.out.cell (World.block_lt_of_cell? w _ hx249_1)).trans hx249_1
              replace hx249_2 := (HB.out.cell (World.block_lt_of_cell? w _ hx249_2)).trans hx249_2
              have HR249_0 := Aside0.mk hi249_0
              have HC249_0 := Aside0.mk hl249_0
              clear hi249_0 hl249_0
              have HR249_1 := Aside0.mk hi249_1
              have HC249_1 := Aside0.mk hl249_1
              clear hi249_1 hl249_1
              replace p249 := eq_true p249
              replace q249 := eq_true q249
              go_wp2_with (first | ((with_reducible refine gate_dst (N := 5) rfl ?_); refine box_event ?hg (N := 5) ?hd (cs := #[.slice none 0 0, .slice none 0 0, .string (⟨#[]⟩ : ByteArray)]) (t := 24) ?hr ?_; (case hd => rfl); (case hg => rfl); (case hr => first | (go_simp; done) | (go_simp; rfl)); intro gb250 hg w11 hbox hb; have n0_ := Aside0.mk (Kd.R_below (by (with_reducible repeat (first | apply Kd.R_alloc | apply Kd.R_drewN | apply Kd.R_drew)); exact HO_3.out) hb); have n1_ := Aside0.mk (below_step (by repeat (first | (with_reducible first | exact HB.out | apply below_alloc | apply pw_below_drewN | apply below_drew1) | exact HB.out)) hb); have n2_ := Aside0.mk (hbox); have n3_ := Aside0.mk ((by rw [hg]; exact (below_size (by repeat (first | (with_reducible first | exact HB.out | apply below_alloc | apply pw_below_drewN | apply below_drew1) | exact HB.out))) : w.heap.size ≤ gb250)); have n4_ := Aside0.mk ((by rw [hg]; exact (below_size (by repeat (first | (with_reducible first | exact HB.out | apply below_alloc | apply pw_below_drewN | apply below_drew1) | exact HB.out))) : w.heap.size ≤ gb250)); clear HO_3; clear HB; have HO_3 := n0_; have HB := n1_; have BK250 := n2_; have GW250 := n3_; have GE250 := n4_; clear n0_ n1_ n2_ n3_ n4_; clear hb hbox hg; have hcz12_0 : w11.cell? ⟨gb250, 0, none⟩ = some (.slice none 0 0) := (blk_cell BK250.out 0).trans rfl; have hcz12_1 : w11.cell? ⟨gb250, 1, none⟩ = some (.slice none 0 0) := (blk_cell BK250.out 1).trans rfl; have hcz12_2 : w11.cell? ⟨gb250, 2, none⟩ = some (.string (⟨#[]⟩ : ByteArray)) := (blk_cell BK250.out 2).trans rfl; have hfz12_0 := blk_frozen BK250.out 0; have hfz12_1 := blk_frozen BK250.out 1; have hfz12_2 := blk_frozen BK250.out 2) | ((with_reducible refine gate_callee (f := 28) rfl ?_); refine goesL_ (some 17) rfl rfl Try.func28 (by kernel_rfl) rfl #[.agg #[.slice A249_0 ((rd_T24 l0 x11_1).f0).length c249_0, .slice A249_1 ((rd_T24 l0 x11_1).f1).length c249_1, .string ((rd_T24 l0 x11_1).f2)]] rfl (by (try simp only [List.map_toArray, List.map_cons, List.map_nil]); first | done | rfl | (simp only [List.length_drop, List.length_take]; rfl)) ?_; (with_reducible refine (hibernacleref32_Bytes.calls k1 _ _ ((rd_T24 l0 x11_1).f0) _ _ ((rd_T24 l0 x11_1).f1) ((rd_T24 l0 x11_1).f2) t251 _ ?side1 ?side2 ?side3 ?side4 A9.out).mono ?_); (case side1 => exact Kd.C_below HR249_0.out (by repeat (first | (with_reducible first | exact HB.out | apply below_alloc | apply pw_below_drewN | apply below_drew1 | refine below_set ?_ GE250.out) | exact HB.out))); (case side2 => exact HC249_0.out); (case side3 => exact Kd.C_below HR249_1.out (by repeat (first | (with_reducible first | exact HB.out | apply below_alloc | apply pw_below_drewN | apply below_drew1 | refine below_set ?_ GE250.out) | exact HB.out))); (case side4 => exact HC249_1.out); rintro e w13 ⟨rfl, hb⟩; refine ⟨_, rfl, ?_⟩; have n0_ := Aside0.mk (Kd.R_below (by (with_reducible repeat (first | apply Kd.R_alloc | apply Kd.R_drewN | apply Kd.R_drew)); exact (Kd.R_mono (Kd.R_far (p := ⟨gb250, 2, none⟩) (Kd.R_far (p := ⟨gb250, 1, none⟩) (Kd.R_far (p := ⟨gb250, 0, none⟩) (Kd.R_types HO_3.out BK250.out (by decide)) (fun _ hk => hk.2) (.slice A249_0 ((rd_T24 l0 x11_1).f0).length c249_0)) (fun _ hk => hk.2) (.slice A249_1 ((rd_T24 l0 x11_1).f1).length c249_1)) (fun _ hk => hk.2) (.string ((rd_T24 l0 x11_1).f2))) (fun _ h_ => h_.1))) hb); have n1_ := Aside0.mk (blk_below (g := gb250) (o := .cells #[.slice A249_0 ((rd_T24 l0 x11_1).f0).length c249_0, .slice A249_1 ((rd_T24 l0 x11_1).f1).length c249_1, .string ((rd_T24 l0 x11_1).f2)] 24 (0, 0)) (by (with_reducible repeat (first | refine blk_drewN ?_ _ | refine blk_drew ?_ | refine blk_alloc ?_ _)); refine blk_put (cs := #[.slice A249_0 ((rd_T24 l0 x11_1).f0).length c249_0, .slice A249_1 ((rd_T24 l0 x11_1).f1).length c249_1, .string (⟨#[]⟩ : ByteArray)]) ?_ 2 _ rfl; (with_reducible repeat (first | refine blk_drewN ?_ _ | refine blk_drew ?_ | refine blk_alloc ?_ _)); refine blk_put (cs := #[.slice A249_0 ((rd_T24 l0 x11_1).f0).length c249_0, .slice none 0 0, .string (⟨#[]⟩ : ByteArray)]) ?_ 1 _ rfl; (with_reducible repeat (first | refine blk_drewN ?_ _ | refine blk_drew ?_ | refine blk_alloc ?_ _)); refine blk_put (cs := #[.slice none 0 0, .slice none 0 0, .string (⟨#[]⟩ : ByteArray)]) ?_ 0 _ rfl; (with_reducible repeat (first | refine blk_drewN ?_ _ | refine blk_drew ?_ | refine blk_alloc ?_ _)); exact BK250.out) hb); have n2_ := Aside0.mk (below_step (by repeat (first | (with_reducible first | exact HB.out | apply below_alloc | apply pw_below_drewN | apply below_drew1 | refine below_set ?_ GE250.out) | exact HB.out)) hb); clear HO_3; clear BK250; clear HB; have HO_3 := n0_; have BK250 := n1_; have HB := n2_; clear n0_ n1_ n2_; (try clear hb); (try clear hb2); (try clear hk); (try clear hi)) | ((with_reducible refine gate_builtin (b := .append) (xs := #[.tmp 15, .tmp 18]) rfl ?_); at_builtin; refine Kd.R_append Kd.string (w0 := w) w.heap.size rfl (.tmp 15) (.tmp 18) 22 9 (.string ⟨#[]⟩) 16 rfl Try.underlying22 info9a rfl (by decide) (by omega) u3 x3_1 t251 [.string t251] (fun _ => True) (fun _ => False) rfl rfl ?aP (fun _ hk => hk.elim) ?aF ?aO ?aB ?aS ?aL ?_; (case aP => exact rfl); (case aB => exact (by repeat (first | (with_reducible first | exact HB.out | apply below_alloc | apply pw_below_drewN | apply below_drew1 | refine below_set ?_ GE250.out) | exact HB.out))); (case aF => exact (fun _ _ => trivial)); (case aO => exact (by (with_reducible repeat (first | apply Kd.R_alloc | apply Kd.R_drewN | apply Kd.R_drew)); exact HO_3.out)); (case aS => exact (below_size (by repeat (first | (with_reducible first | exact HB.out | apply below_alloc | apply pw_below_drewN | apply below_drew1 | refine below_set ?_ GE250.out) | exact HB.out)))); (case aL => have := LMc10.out; omega); intro v253 w14 ho hb hg hat; rw [← Ny252.out] at ho; have n0_ := Aside0.mk (blk_grown (g := gb250) (o := .cells #[.slice A249_0 ((rd_T24 l0 x11_1).f0).length c249_0, .slice A249_1 ((rd_T24 l0 x11_1).f1).length c249_1, .string ((rd_T24 l0 x11_1).f2)] 24 (0, 0)) (by (with_reducible repeat (first | refine blk_drewN ?_ _ | refine blk_drew ?_ | refine blk_alloc ?_ _)); exact BK250.out) hg (Kd.R_ne HO_3.out BK250.out (by decide))); have n1_ := Aside0.mk (hb); have n2_ := Aside0.mk (ho); clear BK250; clear HB; clear HO_3; have BK250 := n0_; have HB := n1_; have HO254 := n2_; clear n0_ n1_ n2_; clear ho hb hg hat))
              go_roundg k1
              case measure => have := HK1.out; omega
              case rel => exact ⟨(y252), (wrap64 (x11_1 + 1)), (by first | rfl | (simp; done) | (simp [*]; done)), H', ⟨by have := HK1.out; omega⟩, ⟨by (with_reducible repeat (first | apply Kd.R_alloc | apply Kd.R_drewN | apply Kd.R_drew)); exact HO254.out⟩, ⟨by repeat (first | (with_reducible first | exact HB.out | apply below_alloc | apply pw_below_drewN | apply below_drew1 | refine below_set ?_ GE250.out) | exact HB.out)⟩⟩
            · rw [if_neg c10] at H
              exact absurd H (by simp)
          · rw [if_neg c8] at H
            exact absurd H (by simp)
        · rw [if_neg c7] at H
          exact absurd H (by simp)
      · rw [if_neg c6] at H
        have c6b0 : decide (x11_1 < (l0.length : Int)) = false := decide_eq_false c6
        clear c6
        replace H := Option.bind_eq_some_iff.mp H
        obtain ⟨t255, A150, H⟩ := H
        replace H : (some t255) = some r := H
        have A15 := Aside0.mk A150
        clear A150
        obtain rfl := Option.some.inj H
        obtain ⟨Ao16, co16, eo16⟩ := Kd.R_slice HO_3.out
        subst eo16
        go_wp2_with (first | ((with_reducible refine gate_callee (f := 29) rfl ?_); refine goesL_ (some 22) rfl rfl Try.func29 (by kernel_rfl) rfl #[.slice Ao16 x3_1.length co16] rfl (by (try simp only [List.map_toArray, List.map_cons, List.map_nil]); first | done | rfl | (simp only [List.length_drop, List.length_take]; rfl)) ?_; (with_reducible refine (hibernacleref02_Apart.calls _ _ x3_1 t255 _ ?side1 ?side2 A15.out).mono ?_); (case side1 => repeat (first | exact (Kd.R_reads' HO_3.out).2.2 | (with_reducible refine Kd.C_alloc ?_ _) | (with_reducible refine Kd.C_drewN ?_ _) | (with_reducible refine Kd.C_drew ?_))); (case side2 => exact (Kd.R_reads' HO_3.out).2.1); rintro e w17 ⟨rfl, hb⟩; refine ⟨_, rfl, ?_⟩; have n0_ := Aside0.mk (Kd.R_below (by (with_reducible repeat (first | apply Kd.R_alloc | apply Kd.R_drewN | apply Kd.R_drew)); exact HO_3.out) hb); have n1_ := Aside0.mk (below_step (by repeat (first | (with_reducible first | exact HB.out | apply below_alloc | apply pw_below_drewN | apply below_drew1) | exact HB.out)) hb); clear HO_3; clear HB; have HO_3 := n0_; have HB := n1_; clear n0_ n1_; (try clear hb); (try clear hb2); (try clear hk); (try clear hi)))
        go_ret
        exact ⟨by first | rfl | (simp [errW_none, errW_some] <;> rfl) | (simp [*, errW_none, errW_some] <;> rfl), by repeat (first | (with_reducible first | exact HB.out | apply below_alloc | apply pw_below_drewN | apply below_drew1) | exact HB.out)⟩

end Go.Proofs.Ytoljjgabgdifbaa.H
namespace Go.Proofs.Ytoljjgabgdifbaa.H
open Go.RowKit Go.Proofs.YtoljjgabgdifbaaW.PrintWords Go.Proofs.YtoljjgabgdifbaaW.PrintLast Go.Proofs.YtoljjgabgdifbaaW.PrintMore
set_option linter.unusedVariables false
set_option linter.unusedSimpArgs false

theorem at_eq (x : List ByteArray) {i : Nat} (h : i < x.length) : at_ x i = x[i] := by simp [at_, List.getD_eq_getElem?_getD, List.getElem?_eq_getElem h]
theorem bytes_eq {a b : ByteArray} (h : a.toList = b.toList) : a = b := by
  rw [ByteArray.toList_eq, ByteArray.toList_eq] at h
  cases a
  cases b
  congr 1
  exact Array.toList_inj.1 h
theorem rdOf_nat (x : List ByteArray) (i : Nat) : rdOf ByteArray.empty x (i : Int) = at_ x i := rdOf_at x i
/-- Some texts of the one, the others of the other one. -/
theorem mid_step {x y : List ByteArray} {i : Nat} (hi : i < y.length) (hx : i < x.length) (h : at_ x i = at_ y i) : y.take i ++ x.drop i = y.take (i + 1) ++ x.drop (i + 1) := by
  rw [at_eq x hx, at_eq y hi] at h
  rw [List.drop_eq_getElem_cons hx, List.take_add_one, List.getElem?_eq_getElem hi, h]
  simp only [Option.toList_some, List.append_assoc, List.singleton_append]
theorem mid_set {x y : List ByteArray} {i : Nat} (hi : i < y.length) (hx : i < x.length) : (y.take i ++ x.drop i).set i (at_ y i) = y.take (i + 1) ++ x.drop (i + 1) := by
  rw [at_eq y hi, List.drop_eq_getElem_cons hx, List.take_add_one, List.getElem?_eq_getElem hi]
  rw [List.set_append_right _ _ (by rw [List.length_take]; omega)]
  have e : i - (y.take i).length = 0 := by rw [List.length_take]; omega
  rw [e]
  simp only [List.set_cons_zero, Option.toList_some, List.append_assoc, List.singleton_append]
theorem mid_app {x y : List ByteArray} {i : Nat} (hi : i < y.length) (hx : x.length ≤ i) : (y.take i ++ x.drop i) ++ [at_ y i] = y.take (i + 1) ++ x.drop (i + 1) := by
  rw [at_eq y hi, List.drop_of_length_le hx, List.drop_of_length_le (by omega), List.take_add_one, List.getElem?_eq_getElem hi]
  simp
theorem done_l0 (x y : List ByteArray) (hxy : x.length ≤ y.length) (hy : y.length ≤ 5864062014805) : ∀ (d i k : Nat), i + d = y.length → 2 * d + 1 < k →
    delta_done.l0 k (y.take i ++ x.drop i) (chg x y y.length) ((chg x y y.length).length : Int) ((chg x y i).length : Int) = some (y, 0)
  | 0, i, k, h, hk => by
    obtain ⟨k, rfl⟩ : ∃ m, k = m + 1 := ⟨k - 1, by omega⟩
    obtain rfl : i = y.length := by omega
    rw [delta_done.l0, if_neg (by omega), List.take_length, List.drop_of_length_le hxy, List.append_nil]
  | d + 1, i, k, h, hk => by
    have hi : i < y.length := by omega
    by_cases uo : unlike x y i = true
    · obtain ⟨k, rfl⟩ : ∃ m, k = m + 1 + 1 := ⟨k - 2, by omega⟩
      have ih := done_l0 x y hxy hy d (i + 1) k (by omega) (by omega)
      obtain ⟨cl, cg⟩ := chg_at hi uo
      have cn := chg_len x y y.length
      have el : ((chg x y (i + 1)).length : Int) = wrap64 (((chg x y i).length : Int) + 1) := by
        rw [chg, if_pos uo, List.length_append, List.length_singleton, wrap_succ (n := y.length) (by omega) hy]
      rw [el] at ih
      have er : rd_T36 (chg x y y.length) ((chg x y i).length : Int) = ⟨(i : Int), at_ y i⟩ := by simp [rd_T36, List.getD_eq_getElem?_getD, cg]
      have ln : (y.take i ++ x.drop i).length = max i x.length := by
        rw [List.length_append, List.length_take, List.length_drop]
        omega
      rw [delta_done.l0, if_pos (by omega), if_pos (by omega), if_pos (by omega), er]
      simp only []
      rw [if_neg (by omega), show decide ((i : Int) > ((y.take i ++ x.drop i).length : Int)) = false from by rw [ln]; simp; omega, delta_done.j1, if_neg (by simp)]
      by_cases c : x.length ≤ i
      · rw [if_pos (by rw [ln]; omega), if_pos (by rw [ln]; omega), mid_app hi c]
        exact ih
      · rw [if_neg (by rw [ln]; omega), if_pos (by omega), if_pos (by rw [ln]; omega), Int.toNat_natCast, mid_set hi (by omega)]
        exact ih
    · have ih := done_l0 x y hxy hy d (i + 1) k (by omega) (by omega)
      have hx : i < x.length := by
        simp [unlike] at uo
        omega
      have he : at_ x i = at_ y i := by
        simp [unlike] at uo
        exact bytes_eq uo.2
      rw [← mid_step hi hx he, chg, if_neg uo] at ih
      exact ih
theorem done_f (x y : List ByteArray) (hxy : x.length ≤ y.length) (hy : y.length ≤ 5864062014805) {k : Nat} (hk : 2 * y.length + 1 < k) : delta_done.f k x (chg x y y.length) = some (y, 0) := by
  unfold delta_done.f slices_Clone_string_string.f
  rw [if_pos (by omega), Option.bind_some]
  exact done_l0 x y hxy hy y.length 0 k (by omega) hk
theorem texts_l0 (x y : List ByteArray) (hl : x.length = y.length) (hy : y.length ≤ 5864062014805) : ∀ (d i k : Nat), i + d = y.length → d < k → x.take i = y.take i →
    ∃ r, hibernacleref35_texts.l0 k x y (i : Int) = some r ∧ (r = true ↔ x = y)
  | 0, i, k, h, hk, ht => by
    obtain ⟨k, rfl⟩ : ∃ m, k = m + 1 := ⟨k - 1, by omega⟩
    rw [hibernacleref35_texts.l0, if_neg (by omega)]
    rw [List.take_of_length_le (by omega), List.take_of_length_le (by omega)] at ht
    exact ⟨true, rfl, by simp [ht]⟩
  | d + 1, i, k, h, hk, ht => by
    obtain ⟨k, rfl⟩ : ∃ m, k = m + 1 := ⟨k - 1, by omega⟩
    have hi : i < y.length := by omega
    rw [hibernacleref35_texts.l0, if_pos (by omega), if_pos (by omega), if_pos (by omega), rdOf_nat, rdOf_nat, wrap_succ hi hy]
    by_cases e : (at_ x i).toList = (at_ y i).toList
    · rw [if_pos e]
      refine texts_l0 x y hl hy d (i + 1) k (by omega) (by omega) ?_
      have e2 := bytes_eq e
      rw [at_eq x (by omega), at_eq y hi] at e2
      rw [List.take_add_one, List.take_add_one, ht, List.getElem?_eq_getElem hi, List.getElem?_eq_getElem (show i < x.length by omega), e2]
    · rw [if_neg e]
      refine ⟨false, rfl, ?_⟩
      simp only [Bool.false_eq_true, false_iff]
      intro hxy
      rw [hxy] at e
      exact e rfl
theorem texts_f (x y : List ByteArray) (hy : y.length ≤ 5864062014805) {k : Nat} (hk : y.length < k) : ∃ r, hibernacleref35_texts.f k x y = some r ∧ (r = true ↔ x = y) := by
  unfold hibernacleref35_texts.f
  by_cases c : (x.length : Int) = (y.length : Int)
  · rw [if_pos c]
    exact texts_l0 x y (by omega) hy y.length 0 k (by omega) hk rfl
  · rw [if_neg c]
    exact ⟨false, rfl, by simp only [Bool.false_eq_true, false_iff]; intro h; rw [h] at c; exact c rfl⟩
theorem images_f (x y : S24) (h0 : y.f0.length ≤ 5864062014805) (h1 : y.f1.length ≤ 5864062014805) {k : Nat} (hk : 5864062014805 < k) : ∃ r, hibernacleref35_Images.f k x.f0 x.f1 x.f2 y.f0 y.f1 y.f2 = some r ∧ (r = true ↔ x = y) := by
  unfold hibernacleref35_Images.f
  obtain ⟨r0, e0, q0⟩ := texts_f x.f0 y.f0 h0 (k := k) (by omega)
  obtain ⟨r1, e1, q1⟩ := texts_f x.f1 y.f1 h1 (k := k) (by omega)
  by_cases c : x.f2.toList = y.f2.toList
  · rw [if_pos c, e0, Option.bind_some]
    have c2 := bytes_eq c
    by_cases d : r0 = true
    · rw [if_pos d, e1, Option.bind_some]
      refine ⟨r1, rfl, ?_⟩
      rw [q1]
      have d' := q0.1 d
      cases x
      cases y
      simp_all
    · rw [if_neg d]
      refine ⟨false, rfl, ?_⟩
      simp only [Bool.false_eq_true, false_iff]
      intro h
      rw [h] at q0
      exact d (q0.2 rfl)
  · rw [if_neg c]
    refine ⟨false, rfl, ?_⟩
    simp only [Bool.false_eq_true, false_iff]
    intro h
    rw [h] at c
    exact c rfl
/-- An image's bytes, as a text. -/
def imgB (x : S24) : ByteArray := ⟨(imageL x.f0 x.f1 x.f2).toArray⟩
def iSum (x : S24) : List Int := imgSum x.f0 x.f1 x.f2
theorem iSum_eq (x : S24) : iSum x = sumL (imgB x) := rfl
theorem imgB_inj {x y : S24} (h : imgB x = imgB y) : x = y := by
  have e : imageL x.f0 x.f1 x.f2 = imageL y.f0 y.f1 y.f2 := by
    have := congrArg (fun b => b.data.toList) h
    simpa [imgB] using this
  obtain ⟨e0, e1, e2⟩ := imageL_inj e
  cases x
  cases y
  simp_all
/-- The image without anything. -/
def noth : S24 := ⟨[], [], ⟨#[]⟩⟩
theorem apt_inj {l : List S24} (h : Apt (l.map imgB) l.length) {i j : Nat} (hi : i < l.length) (hj : j < l.length) (he : iSum l[i] = iSum l[j]) : l[i] = l[j] := by
  have ea : ∀ i (hi : i < l.length), at_ (l.map imgB) i = imgB l[i] := fun i hi => by
    rw [at_eq _ (by rw [List.length_map]; exact hi), List.getElem_map]
  rcases Nat.lt_trichotomy i j with c | c | c
  · have := h j i c hj (by rw [ea i hi, ea j hj]; exact he.symm)
    rw [ea i hi, ea j hj] at this
    exact (imgB_inj (bytes_eq this)).symm
  · subst c; rfl
  · have := h i j c hi (by rw [ea i hi, ea j hj]; exact he)
    rw [ea i hi, ea j hj] at this
    exact imgB_inj (bytes_eq this)
theorem bytes_f' (x : S24) (h0 : x.f0.length ≤ 5864062014805) (h1 : x.f1.length ≤ 5864062014805) (hL : (imageL x.f0 x.f1 x.f2).length ≤ 140737488355328) {k : Nat} (hk : 281474976710656 ≤ k) : hibernacleref32_Bytes.f k x.f0 x.f1 x.f2 = some (imgB x) := by
  have hl := imageL_len x.f0 x.f1 x.f2
  unfold hibernacleref32_Bytes.f
  rw [row_f x.f0 h0 (by omega) (by omega), Option.bind_some, row_f x.f1 h1 (by omega) (by omega), Option.bind_some, show (⟨#[104, 105, 98, 105]⟩ : ByteArray) = hibi from rfl, row_f _ (by simp) hL (by simp; omega), Option.bind_some]
  rfl
theorem apart_l0 (l : List S24) (hl : l.length ≤ 1000) (hs : ∀ x ∈ l, x.f0.length ≤ 5864062014805 ∧ x.f1.length ≤ 5864062014805 ∧ (imageL x.f0 x.f1 x.f2).length ≤ 140737488355328) : ∀ (d i k : Nat), i + d = l.length → d + 281474976710656 < k →
    hibernaclelaw35_apart.l0 k (((noth :: l).map imgB).take (i + 1)) l (l.length : Int) (i : Int) = some (aptB ((noth :: l).map imgB))
  | 0, i, k, h, hk => by
    obtain ⟨k, rfl⟩ : ∃ m, k = m + 1 := ⟨k - 1, by omega⟩
    rw [hibernaclelaw35_apart.l0, if_neg (by omega), List.take_of_length_le (by rw [List.length_map, List.length_cons]; omega)]
    unfold hibernacleref02_Apart.f
    rw [if_pos (by simp), if_pos (by rw [List.length_map, List.length_cons]; omega), if_pos ?_, Option.bind_some]
    rw [List.all_eq_true]
    intro b hb
    rw [List.mem_map] at hb
    obtain ⟨x, hx, rfl⟩ := hb
    rw [decide_eq_true_iff]
    show (imageL x.f0 x.f1 x.f2).toArray.size ≤ _
    rw [List.size_toArray]
    rcases List.mem_cons.1 hx with rfl | hx
    · decide +kernel
    · exact (hs x hx).2.2
  | d + 1, i, k, h, hk => by
    obtain ⟨k, rfl⟩ : ∃ m, k = m + 1 := ⟨k - 1, by omega⟩
    have hi : i < l.length := by omega
    have er : rd_T24 l (i : Int) = l[i] := by simp [rd_T24, List.getD_eq_getElem?_getD, List.getElem?_eq_getElem hi]
    obtain ⟨s0, s1, s2⟩ := hs l[i] (List.getElem_mem hi)
    rw [hibernaclelaw35_apart.l0, if_pos (by omega), if_pos (by omega), if_pos (by omega), er, bytes_f' l[i] s0 s1 s2 (by omega), Option.bind_some, if_pos (by rw [List.length_take, List.length_map, List.length_cons]; omega), wrap_succ hi (by omega)]
    have et : ((noth :: l).map imgB).take (i + 1) ++ [imgB l[i]] = ((noth :: l).map imgB).take (i + 1 + 1) := by
      rw [List.take_add_one (i := i + 1)]
      simp [List.getElem?_eq_getElem hi]
    rw [et]
    exact apart_l0 l hl hs d (i + 1) k (by omega) (by omega)
theorem apart_f (l : List S24) (hl : l.length ≤ 1000) (hs : ∀ x ∈ l, x.f0.length ≤ 5864062014805 ∧ x.f1.length ≤ 5864062014805 ∧ (imageL x.f0 x.f1 x.f2).length ≤ 140737488355328) {k : Nat} (hk : l.length + 281474976710656 < k) :
    hibernaclelaw35_apart.f k l = some (aptB ((noth :: l).map imgB)) := by
  unfold hibernaclelaw35_apart.f
  have e := bytes_f' noth (by decide) (by decide) (by decide +kernel) (k := k) (by omega)
  rw [show hibernacleref32_Bytes.f k [] [] ⟨#[]⟩ = some (imgB noth) from e, Option.bind_some]
  exact apart_l0 l hl hs l.length 0 k (by omega) (by omega)
end Go.Proofs.Ytoljjgabgdifbaa.H
namespace Go.Proofs.Ytoljjgabgdifbaa.H
open Go.RowKit Go.Proofs.YtoljjgabgdifbaaW.PrintWords Go.Proofs.YtoljjgabgdifbaaW.PrintLast Go.Proofs.YtoljjgabgdifbaaW.PrintMore
set_option linter.unusedVariables false
set_option linter.unusedSimpArgs false

theorem results_row_tmp {P : Program} {fn : Func} {p u : Tmp} {ty : TypeId} (h : fn.results = #[.cell p ty, .tmp u]) (tmps : Array Value) (w : World) (g : Nat) (t : TypeId) (cs : Array Value) (d : TypeDesc)
    (hp : tmps.getD p undef = .pointer (some ⟨g, 0, none⟩)) (hg : Blk w g t cs)
    (hu : P.underlying ty = some d) (hd : (match d with | .struct _ | .array _ _ => true | _ => false) = true) (hi : (P.info? ty).map (·.size) = some cs.size) :
    (results fn tmps).run P w = .ok (.tuple #[.agg cs, tmps.getD u undef]) w := by
  rw [results_cell_tmp h, hp]
  simp [asAddr, run_loadVar_row w g t ty cs (0, 0) d hg hu hd hi]
set_option maxRecDepth 100000 in
set_option maxHeartbeats 8000000 in
/-- A delta of another image. -/
theorem apply_diff
    (L M : List Int) (hL : Dig L) (hM : Dig M) (A0 : Option Addr) (c0 : Nat) (A1 : Option Addr) (c1 : Nat) (x : S24) (U1 : Option Addr) (u1 : Nat) (r1 : List S36) (U2 : Option Addr) (u2 : Nat) (r2 : List S36) (s : ByteArray) (w : World)
    (hA0 : Kd.C Kd.string w A0 x.f0.length x.f0) (ha0 : x.f0.length ≤ c0) (hA1 : Kd.C Kd.string w A1 x.f1.length x.f1) (ha1 : x.f1.length ≤ c1) (hLx : (imageL x.f0 x.f1 x.f2).length ≤ 140737488355328)
    (hne : imgSum x.f0 x.f1 x.f2 ≠ L) (hne2 : emptySum ≠ L) :
    Calls Try.prog 15 #[.agg #[.slice A0 x.f0.length c0, .slice A1 x.f1.length c1, .string x.f2], .agg (dArr L (.slice U1 r1.length u1) (.slice U2 r2.length u2) s M)] w fun e w' => e = .returned (.tuple #[.agg #[.slice none 0 0, .slice none 0 0, .string ⟨#[]⟩], .int .i64 23]) ∧ Below w.heap.size w w' := by
  have BC := ((Blk.new w 24 #[.slice A0 x.f0.length c0, .slice A1 x.f1.length c1, .string x.f2]).alloc (.cells (dArr L (.slice U1 r1.length u1) (.slice U2 r2.length u2) s M) 32)).alloc (.cells #[.slice none 0 0, .slice none 0 0, .string ⟨#[]⟩] 24)
  have BD := (Blk.new (w.alloc (.cells #[.slice A0 x.f0.length c0, .slice A1 x.f1.length c1, .string x.f2] 24)) 32 (dArr L (.slice U1 r1.length u1) (.slice U2 r2.length u2) s M)).alloc (.cells #[.slice none 0 0, .slice none 0 0, .string ⟨#[]⟩] 24)
  have BR := Blk.new ((w.alloc (.cells #[.slice A0 x.f0.length c0, .slice A1 x.f1.length c1, .string x.f2] 24)).alloc (.cells (dArr L (.slice U1 r1.length u1) (.slice U2 r2.length u2) s M) 32)) 24 #[.slice none 0 0, .slice none 0 0, .string ⟨#[]⟩]
  have W0 := (((Below.refl w.heap.size w).alloc (Nat.le_refl _) (.cells #[.slice A0 x.f0.length c0, .slice A1 x.f1.length c1, .string x.f2] 24)).alloc (by simp) (.cells (dArr L (.slice U1 r1.length u1) (.slice U2 r2.length u2) s M) 32)).alloc (by simp; omega) (.cells #[.slice none 0 0, .slice none 0 0, .string ⟨#[]⟩] 24)
  rw [sz] at BD
  rw [sz, sz] at BR
  generalize hw0 : (((w.alloc (.cells #[.slice A0 x.f0.length c0, .slice A1 x.f1.length c1, .string x.f2] 24)).alloc (.cells (dArr L (.slice U1 r1.length u1) (.slice U2 r2.length u2) s M) 32)).alloc (.cells #[.slice none 0 0, .slice none 0 0, .string ⟨#[]⟩] 24)) = w0 at BC BD BR W0
  have HW0 := Aside0.mk hw0
  clear hw0
  have BC1 := Aside0.mk BC.drew
  have BD1 := Aside0.mk BD.drew
  have BR1 := Aside0.mk BR.drew
  have W1 := Aside0.mk (below_drew W0)
  clear BC BD BR W0
  have HSL := imgSum_dig x.f0 x.f1 x.f2
  obtain ⟨I, hI⟩ : ∃ I, I = imgSum x.f0 x.f1 x.f2 := ⟨_, rfl⟩
  have SUM : Aside0 (∀ W, Below w.heap.size w W → Calls Try.prog 23 #[.agg #[.slice A0 x.f0.length c0, .slice A1 x.f1.length c1, .string x.f2]] W fun e w' => e = .returned (.agg (nums .u8 I).toArray) ∧ Below W.heap.size W w') := ⟨fun W hb => by
    rw [hI]
    exact imageSum_calls A0 c0 x.f0 A1 c1 x.f1 x.f2 W (Kd.C_below hA0 hb) ha0 (Kd.C_below hA1 hb) ha1 hLx⟩
  rw [← hI] at HSL hne
  have q := eq_dig HSL hL
  have qe := eq_dig (imgSum_dig [] [] ⟨#[]⟩) hL
  rw [show imgSum [] [] ⟨#[]⟩ = emptySum from rfl] at qe
  obtain ⟨E, hE⟩ : ∃ E, E = emptySum := ⟨_, rfl⟩
  have nothing_calls := fun W => nothing_calls W
  rw [← hE] at qe nothing_calls hne2
  have hL := Aside0.mk hL
  have hM := Aside0.mk hM
  have nothing_calls := fun W => nothing_calls W
  clear hI hE HSL
  rw [decide_eq_false hne] at q
  rw [decide_eq_false hne2] at qe
  clear hne hne2
  go_enter Try.func15, Try.ntmps15
  go_wp2_with (rw [show (((w.alloc (.cells #[.slice A0 x.f0.length c0, .slice A1 x.f1.length c1, .string x.f2] 24)).alloc (.cells (dArr L (.slice U1 r1.length u1) (.slice U2 r2.length u2) s M) 32)).alloc (.cells #[.slice none 0 0, .slice none 0 0, .string ⟨#[]⟩] 24)) = w0 from HW0.out])
  refine start_ (n := 5) (S := fun w' => Blk w' w.heap.size 24 #[.slice A0 x.f0.length c0, .slice A1 x.f1.length c1, .string x.f2] ∧ Blk w' (w.heap.size + 1) 32 (dArr L (.slice U1 r1.length u1) (.slice U2 r2.length u2) s M)) (ds := []) #[false, false, false, false, false] (by kernel_rfl) rfl rfl ⟨BC1.out, BD1.out⟩ (fun hHeld => ?_)
  refine pure_ (i := 2) (N := some 12) (v := ?_) (a' := ?_) #[false, false, true, false, false] rfl rfl (by kernel_rfl) (fun _ _ _ h => h) (Or.inl ⟨by rfl, ?_⟩) ?_ ?_
  rotate_left
  · intro w'
    go_simp
    with_reducible rfl
  rotate_left
  · simp only [Act.put, List.setIfInBounds_toArray, List.set_cons_zero, List.set_cons_succ, i64_w, i32_w]
    rfl
  refine take_ (i := 0) (N := some 10) (v := ?_) (a' := ?_) #[true, false, true, false, false] rfl rfl (by kernel_rfl) (fun _ _ _ h => h) (Or.inl ⟨by rfl, ?_⟩) hHeld ?_ ?_
  rotate_left
  · rintro w' ⟨s0, s1⟩
    refine row_loads 24 (.tmp 2) ?_ w.heap.size ?_ s0 Try.underlying24 ?_ ?_
    · rfl
    · rfl
    · rfl
    · kernel_rfl
  rotate_left
  · simp only [Act.put, List.setIfInBounds_toArray, List.set_cons_zero, List.set_cons_succ, i64_w, i32_w]
    rfl
  refine take_ (i := 3) (N := some 13) (v := ?_) (a' := ?_) #[true, false, true, true, false] rfl rfl (by kernel_rfl) (fun _ _ _ h => h) (Or.inl ⟨by rfl, ?_⟩) hHeld ?_ ?_
  rotate_left
  · rintro w' ⟨s0, s1⟩
    refine mid_loads 29 (.tmp 12) ?_ (w.heap.size + 1) 0 ?_ (dArr_range w' _ L M hL.out.len hM.out.len _ _ s s1).1 Try.underlying29 ?_ ?_
    · rfl
    · rfl
    · rfl
    · rw [nums_length, hL.out.len]; kernel_rfl
  rotate_left
  · simp only [Act.put, List.setIfInBounds_toArray, List.set_cons_zero, List.set_cons_succ, i64_w, i32_w]
    rfl
  refine one_ (i := 1) (N := some 11) #[true, true, true, true, false] rfl rfl (by kernel_rfl) (by decide) (fun K hK => ?_)
  refine goes_ Try.func23 (by kernel_rfl) rfl #[.agg #[.slice A0 x.f0.length c0, .slice A1 x.f1.length c1, .string x.f2]] (by rfl) rfl rfl (by simp only [List.map_toArray, List.map_cons, List.map_nil]; rfl) ?_
  with_reducible refine (SUM.out _ W1.out).mono ?_
  rintro e w2 ⟨rfl, hb⟩
  refine ⟨_, rfl, ?_⟩
  have BC2 := Aside0.mk (BC1.out.below hb BC1.out.lt)
  have BD2 := Aside0.mk (BD1.out.below hb BD1.out.lt)
  have BR2 := Aside0.mk (BR1.out.below hb BR1.out.lt)
  have W2 := Aside0.mk (below_then W1.out W1.out.size hb)
  clear hb
  refine hK.out _ _ ⟨BC2.out, BD2.out⟩ (fun hHeld => ?_)
  clear hK K
  refine norm_ (a' := ?_) ?_ ?_
  rotate_left
  · show Act.put _ (some 11) _ = _
    simp only [Act.put, List.setIfInBounds_toArray, List.set_cons_zero, List.set_cons_succ, i64_w, i32_w]
    rfl
  refine pure_ (i := 4) (N := some 14) (v := ?_) (a' := ?_) #[true, true, true, true, true] rfl rfl (by kernel_rfl) (fun _ _ _ h => h) (Or.inl ⟨by rfl, ?_⟩) ?_ ?_
  rotate_left
  · intro w'
    go_simp
    with_reducible rfl
  rotate_left
  · simp only [Act.put, List.setIfInBounds_toArray, List.set_cons_zero, List.set_cons_succ, i64_w, i32_w]
    rfl
  refine done_ (by kernel_rfl) ?_

  clear hHeld
  go_wp2_with fail
  have BC3 := Aside0.mk BC2.out.drew
  have BD3 := Aside0.mk BD2.out.drew
  have BR3 := Aside0.mk BR2.out.drew
  have W3 := Aside0.mk (below_drew W2.out)
  refine start_ (n := 4) (S := fun w' => Blk w' (w.heap.size + 1) 32 (dArr L (.slice U1 r1.length u1) (.slice U2 r2.length u2) s M)) (ds := []) #[false, false, false, false] (by kernel_rfl) rfl rfl (BD3.out) (fun hHeld => ?_)
  refine pure_ (i := 1) (N := some 16) (v := ?_) (a' := ?_) #[false, true, false, false] rfl rfl (by kernel_rfl) (fun _ _ _ h => h) (Or.inl ⟨by rfl, ?_⟩) ?_ ?_
  rotate_left
  · intro w'
    go_simp
    with_reducible rfl
  rotate_left
  · simp only [Act.put, List.setIfInBounds_toArray, List.set_cons_zero, List.set_cons_succ, i64_w, i32_w]
    rfl
  refine take_ (i := 2) (N := some 17) (v := ?_) (a' := ?_) #[false, true, true, false] rfl rfl (by kernel_rfl) (fun _ _ _ h => h) (Or.inl ⟨by rfl, ?_⟩) hHeld ?_ ?_
  rotate_left
  · intro w' s0
    refine mid_loads 29 (.tmp 16) ?_ (w.heap.size + 1) 0 ?_ (dArr_range w' _ L M hL.out.len hM.out.len _ _ s s0).1 Try.underlying29 ?_ ?_
    · rfl
    · rfl
    · rfl
    · rw [nums_length, hL.out.len]; kernel_rfl
  rotate_left
  · simp only [Act.put, List.setIfInBounds_toArray, List.set_cons_zero, List.set_cons_succ, i64_w, i32_w]
    rfl
  refine one_ (i := 0) (N := some 15) #[true, true, true, false] rfl rfl (by kernel_rfl) (by decide) (fun K hK => ?_)
  refine goes_ Try.func30 (by kernel_rfl) rfl #[] (by rfl) rfl rfl (by simp only [List.map_toArray, List.map_nil]) ?_
  with_reducible refine (nothing_calls _).mono ?_
  rintro e w4 ⟨rfl, hb⟩
  refine ⟨_, rfl, ?_⟩
  have BC4 := Aside0.mk (BC3.out.below hb BC3.out.lt)
  have BD4 := Aside0.mk (BD3.out.below hb BD3.out.lt)
  have BR4 := Aside0.mk (BR3.out.below hb BR3.out.lt)
  have W4 := Aside0.mk (below_then W3.out W3.out.size hb)
  clear hb
  refine hK.out _ _ (BD4.out) (fun hHeld => ?_)
  clear hK K
  refine norm_ (a' := ?_) ?_ ?_
  rotate_left
  · show Act.put _ (some 15) _ = _
    simp only [Act.put, List.setIfInBounds_toArray, List.set_cons_zero, List.set_cons_succ, i64_w, i32_w]
    rfl
  refine pure_ (i := 3) (N := some 18) (v := ?_) (a' := ?_) #[true, true, true, true] rfl rfl (by kernel_rfl) (fun _ _ _ h => h) (Or.inl ⟨by rfl, ?_⟩) ?_ ?_
  rotate_left
  · intro w'
    go_simp
    with_reducible rfl
  rotate_left
  · simp only [Act.put, List.setIfInBounds_toArray, List.set_cons_zero, List.set_cons_succ, i64_w, i32_w]
    rfl
  refine done_ (by kernel_rfl) ?_

  clear hHeld
  go_wp2_with (first | (refine wpList_store_row rfl 24 (.tmp 4) (.tmp 19) rfl (w.heap.size + 1 + 1) #[.slice none 0 0, .slice none 0 0, .string ⟨#[]⟩] rfl rfl 24 _ BR4.out (by kernel_rfl) (by kernel_rfl) (by kernel_rfl) ?_))
  exact bodyPost_ret (results_row_tmp (p := 4) (u := 5) (ty := 24) rfl _ _ (w.heap.size + 1 + 1) 24 _ _ rfl (BR4.out.setRow_ _) Try.underlying24 rfl (by kernel_rfl)) rfl ⟨rfl, below_setRow' W4.out (by omega) _⟩
set_option maxRecDepth 100000 in
set_option maxHeartbeats 8000000 in
/-- A delta of this image, or of that without anything. -/
theorem apply_ok (K : Nat) (y0 y1 : List ByteArray) (y : S24)
    (L M : List Int) (hL : Dig L) (hM : Dig M) (A0 : Option Addr) (c0 : Nat) (A1 : Option Addr) (c1 : Nat) (x : S24) (U1 : Option Addr) (u1 : Nat) (r1 : List S36) (U2 : Option Addr) (u2 : Nat) (r2 : List S36) (s : ByteArray) (w : World)
    (hA0 : Kd.C Kd.string w A0 x.f0.length x.f0) (ha0 : x.f0.length ≤ c0) (hA1 : Kd.C Kd.string w A1 x.f1.length x.f1) (ha1 : x.f1.length ≤ c1) (hLx : (imageL x.f0 x.f1 x.f2).length ≤ 140737488355328)
    (hU1 : Kd.C k36 w U1 r1.length r1) (hu1 : r1.length ≤ u1) (hU2 : Kd.C k36 w U2 r2.length r2) (hu2 : r2.length ≤ u2)
    (hcase : imgSum x.f0 x.f1 x.f2 = L ∧ y = x ∨ imgSum x.f0 x.f1 x.f2 ≠ L ∧ emptySum = L ∧ y = ⟨[], [], ⟨#[]⟩⟩)
    (hd0 : delta_done.f K y.f0 r1 = some (y0, 0)) (hd1 : delta_done.f K y.f1 r2 = some (y1, 0)) (hsum : imgSum y0 y1 s = M) (hLy : (imageL y0 y1 s).length ≤ 140737488355328) :
    Calls Try.prog 15 #[.agg #[.slice A0 x.f0.length c0, .slice A1 x.f1.length c1, .string x.f2], .agg (dArr L (.slice U1 r1.length u1) (.slice U2 r2.length u2) s M)] w fun e w' => ∃ Y0 d0 Y1 d1, e = .returned (.tuple #[.agg #[.slice Y0 y0.length d0, .slice Y1 y1.length d1, .string s], .int .i64 0]) ∧ Kd.C Kd.string w' Y0 y0.length y0 ∧ y0.length ≤ d0 ∧ Kd.C Kd.string w' Y1 y1.length y1 ∧ y1.length ≤ d1 ∧ Below w.heap.size w w' := by
  have qm := eq_dig hM hM
  simp only [decide_true] at qm
  have BC := ((Blk.new w 24 #[.slice A0 x.f0.length c0, .slice A1 x.f1.length c1, .string x.f2]).alloc (.cells (dArr L (.slice U1 r1.length u1) (.slice U2 r2.length u2) s M) 32)).alloc (.cells #[.slice none 0 0, .slice none 0 0, .string ⟨#[]⟩] 24)
  have BD := (Blk.new (w.alloc (.cells #[.slice A0 x.f0.length c0, .slice A1 x.f1.length c1, .string x.f2] 24)) 32 (dArr L (.slice U1 r1.length u1) (.slice U2 r2.length u2) s M)).alloc (.cells #[.slice none 0 0, .slice none 0 0, .string ⟨#[]⟩] 24)
  have BR := Blk.new ((w.alloc (.cells #[.slice A0 x.f0.length c0, .slice A1 x.f1.length c1, .string x.f2] 24)).alloc (.cells (dArr L (.slice U1 r1.length u1) (.slice U2 r2.length u2) s M) 32)) 24 #[.slice none 0 0, .slice none 0 0, .string ⟨#[]⟩]
  have W0 := (((Below.refl w.heap.size w).alloc (Nat.le_refl _) (.cells #[.slice A0 x.f0.length c0, .slice A1 x.f1.length c1, .string x.f2] 24)).alloc (by simp) (.cells (dArr L (.slice U1 r1.length u1) (.slice U2 r2.length u2) s M) 32)).alloc (by simp; omega) (.cells #[.slice none 0 0, .slice none 0 0, .string ⟨#[]⟩] 24)
  rw [sz] at BD
  rw [sz, sz] at BR
  generalize hw0 : (((w.alloc (.cells #[.slice A0 x.f0.length c0, .slice A1 x.f1.length c1, .string x.f2] 24)).alloc (.cells (dArr L (.slice U1 r1.length u1) (.slice U2 r2.length u2) s M) 32)).alloc (.cells #[.slice none 0 0, .slice none 0 0, .string ⟨#[]⟩] 24)) = w0 at BC BD BR W0
  have HW0 := Aside0.mk hw0
  clear hw0
  have BC1 := Aside0.mk BC.drew
  have BD1 := Aside0.mk BD.drew
  have BR1 := Aside0.mk BR.drew
  have W1 := Aside0.mk (below_drew W0)
  clear BC BD BR W0
  have HSL := imgSum_dig x.f0 x.f1 x.f2
  obtain ⟨I, hI⟩ : ∃ I, I = imgSum x.f0 x.f1 x.f2 := ⟨_, rfl⟩
  have SUM : Aside0 (∀ W, Below w.heap.size w W → Calls Try.prog 23 #[.agg #[.slice A0 x.f0.length c0, .slice A1 x.f1.length c1, .string x.f2]] W fun e w' => e = .returned (.agg (nums .u8 I).toArray) ∧ Below W.heap.size W w') := ⟨fun W hb => by
    rw [hI]
    exact imageSum_calls A0 c0 x.f0 A1 c1 x.f1 x.f2 W (Kd.C_below hA0 hb) ha0 (Kd.C_below hA1 hb) ha1 hLx⟩
  rw [← hI] at HSL hcase
  have q := eq_dig HSL hL
  have qe := eq_dig (imgSum_dig [] [] ⟨#[]⟩) hL
  rw [show imgSum [] [] ⟨#[]⟩ = emptySum from rfl] at qe
  obtain ⟨E, hE⟩ : ∃ E, E = emptySum := ⟨_, rfl⟩
  have nothing_calls := fun W => nothing_calls W
  rw [← hE] at qe nothing_calls hcase
  have hL := Aside0.mk hL
  have hM := Aside0.mk hM
  have nothing_calls := fun W => nothing_calls W
  clear hI hE HSL
  obtain ⟨a32, a33, a34⟩ := dArr_mid L M hL.out.len (.slice U1 r1.length u1) (.slice U2 r2.length u2) s
  have A32 := Aside0.mk a32
  have A33 := Aside0.mk a33
  have A34 := Aside0.mk a34
  clear a32 a33 a34
  have HSU := Aside0.mk hsum
  clear hsum
  rcases hcase with ⟨h1, hy⟩ | ⟨h1, h2, hy⟩
  · rw [decide_eq_true h1] at q
    clear h1 qe nothing_calls
    go_enter Try.func15, Try.ntmps15
    go_wp2_with (rw [show (((w.alloc (.cells #[.slice A0 x.f0.length c0, .slice A1 x.f1.length c1, .string x.f2] 24)).alloc (.cells (dArr L (.slice U1 r1.length u1) (.slice U2 r2.length u2) s M) 32)).alloc (.cells #[.slice none 0 0, .slice none 0 0, .string ⟨#[]⟩] 24)) = w0 from HW0.out])
    refine start_ (n := 5) (S := fun w' => Blk w' w.heap.size 24 #[.slice A0 x.f0.length c0, .slice A1 x.f1.length c1, .string x.f2] ∧ Blk w' (w.heap.size + 1) 32 (dArr L (.slice U1 r1.length u1) (.slice U2 r2.length u2) s M)) (ds := []) #[false, false, false, false, false] (by kernel_rfl) rfl rfl ⟨BC1.out, BD1.out⟩ (fun hHeld => ?_)
    refine pure_ (i := 2) (N := some 12) (v := ?_) (a' := ?_) #[false, false, true, false, false] rfl rfl (by kernel_rfl) (fun _ _ _ h => h) (Or.inl ⟨by rfl, ?_⟩) ?_ ?_
    rotate_left
    · intro w'
      go_simp
      with_reducible rfl
    rotate_left
    · simp only [Act.put, List.setIfInBounds_toArray, List.set_cons_zero, List.set_cons_succ, i64_w, i32_w]
      rfl
    refine take_ (i := 0) (N := some 10) (v := ?_) (a' := ?_) #[true, false, true, false, false] rfl rfl (by kernel_rfl) (fun _ _ _ h => h) (Or.inl ⟨by rfl, ?_⟩) hHeld ?_ ?_
    rotate_left
    · rintro w' ⟨s0, s1⟩
      refine row_loads 24 (.tmp 2) ?_ w.heap.size ?_ s0 Try.underlying24 ?_ ?_
      · rfl
      · rfl
      · rfl
      · kernel_rfl
    rotate_left
    · simp only [Act.put, List.setIfInBounds_toArray, List.set_cons_zero, List.set_cons_succ, i64_w, i32_w]
      rfl
    refine take_ (i := 3) (N := some 13) (v := ?_) (a' := ?_) #[true, false, true, true, false] rfl rfl (by kernel_rfl) (fun _ _ _ h => h) (Or.inl ⟨by rfl, ?_⟩) hHeld ?_ ?_
    rotate_left
    · rintro w' ⟨s0, s1⟩
      refine mid_loads 29 (.tmp 12) ?_ (w.heap.size + 1) 0 ?_ (dArr_range w' _ L M hL.out.len hM.out.len _ _ s s1).1 Try.underlying29 ?_ ?_
      · rfl
      · rfl
      · rfl
      · rw [nums_length, hL.out.len]; kernel_rfl
    rotate_left
    · simp only [Act.put, List.setIfInBounds_toArray, List.set_cons_zero, List.set_cons_succ, i64_w, i32_w]
      rfl
    refine one_ (i := 1) (N := some 11) #[true, true, true, true, false] rfl rfl (by kernel_rfl) (by decide) (fun K hK => ?_)
    refine goes_ Try.func23 (by kernel_rfl) rfl #[.agg #[.slice A0 x.f0.length c0, .slice A1 x.f1.length c1, .string x.f2]] (by rfl) rfl rfl (by simp only [List.map_toArray, List.map_cons, List.map_nil]; rfl) ?_
    with_reducible refine (SUM.out _ W1.out).mono ?_
    rintro e w2 ⟨rfl, hb⟩
    refine ⟨_, rfl, ?_⟩
    have BC2 := Aside0.mk (BC1.out.below hb BC1.out.lt)
    have BD2 := Aside0.mk (BD1.out.below hb BD1.out.lt)
    have BR2 := Aside0.mk (BR1.out.below hb BR1.out.lt)
    have W2 := Aside0.mk (below_then W1.out W1.out.size hb)
    clear hb
    refine hK.out _ _ ⟨BC2.out, BD2.out⟩ (fun hHeld => ?_)
    clear hK K
    refine norm_ (a' := ?_) ?_ ?_
    rotate_left
    · show Act.put _ (some 11) _ = _
      simp only [Act.put, List.setIfInBounds_toArray, List.set_cons_zero, List.set_cons_succ, i64_w, i32_w]
      rfl
    refine pure_ (i := 4) (N := some 14) (v := ?_) (a' := ?_) #[true, true, true, true, true] rfl rfl (by kernel_rfl) (fun _ _ _ h => h) (Or.inl ⟨by rfl, ?_⟩) ?_ ?_
    rotate_left
    · intro w'
      go_simp
      with_reducible rfl
    rotate_left
    · simp only [Act.put, List.setIfInBounds_toArray, List.set_cons_zero, List.set_cons_succ, i64_w, i32_w]
      rfl
    refine done_ (by kernel_rfl) ?_

    clear hHeld
    obtain ⟨X0, x0, X1, x1, hX0, hx0, hX1, hx1, BYE⟩ : ∃ X0 x0 X1 x1, Kd.C Kd.string w X0 y.f0.length y.f0 ∧ y.f0.length ≤ x0 ∧ Kd.C Kd.string w X1 y.f1.length y.f1 ∧ y.f1.length ≤ x1 ∧ Aside0 (Blk w2 w.heap.size 24 #[.slice X0 y.f0.length x0, .slice X1 y.f1.length x1, .string y.f2]) := by
      rw [hy]
      exact ⟨A0, c0, A1, c1, hA0, ha0, hA1, ha1, BC2⟩
    have BDE := BD2
    have BRE := BR2
    have WE := W2
    clear BC1 BC2 BD1 BD2 BR1 BR2 W1 W2 hy SUM q
    have yc0 : w2.cell? ⟨w.heap.size, 0, none⟩ = some (.slice X0 y.f0.length x0) := BYE.out.cell 0
    have dc1 : w2.cell? ⟨w.heap.size + 1, 32, none⟩ = some (.slice U1 r1.length u1) := (BDE.out.cell 32).trans A32.out
    go_wp2_with (first | ((with_reducible refine (delta_done.calls K X0 x0 y.f0 U1 u1 r1 y0 0 _ (Kd.C_below hX0 WE.out) hx0 (Kd.C_below hU1 WE.out) hu1 hd0).mono ?_); rintro e w5 ⟨v1, rfl, hR, hb⟩; obtain ⟨Y0, d0, rfl⟩ := Kd.R_slice hR; have HLT5 := BRE.out.lt; have HLT5 := Aside0.mk HLT5; have BY5 := Aside0.mk (BYE.out.below hb BYE.out.lt); have BD5 := Aside0.mk (BDE.out.below hb BDE.out.lt); have BR5 := Aside0.mk (BRE.out.below hb BRE.out.lt); have W5 := Aside0.mk (below_then WE.out WE.out.size hb); have R05 := Aside0.mk hR; have yc1 : w5.cell? ⟨w.heap.size, 1, none⟩ = some (.slice X1 y.f1.length x1) := BY5.out.cell 1; have dc2 : w5.cell? ⟨w.heap.size + 1, 33, none⟩ = some (.slice U2 r2.length u2) := (BD5.out.cell 33).trans A33.out; clear hb hR yc0 dc1) | ((with_reducible refine (delta_done.calls K X1 x1 y.f1 U2 u2 r2 y1 0 _ (Kd.C_below hX1 W5.out) hx1 (Kd.C_below hU2 W5.out) hu2 hd1).mono ?_); rintro e w7 ⟨v2, rfl, hR, hb⟩; obtain ⟨Y1, d1, rfl⟩ := Kd.R_slice hR; have HLT6 := Aside0.mk BR5.out.lt; have BD7 := Aside0.mk (BD5.out.below hb BD5.out.lt); have BR7 := Aside0.mk (BR5.out.below hb BR5.out.lt); have W7 := Aside0.mk (below_then W5.out W5.out.size hb); have R07 := Aside0.mk (Kd.R_below R05.out hb); have R17 := Aside0.mk hR; have dc3 : w7.cell? ⟨w.heap.size + 1, 34, none⟩ = some (.string s) := (BD7.out.cell 34).trans A34.out; clear hb hR yc1 dc2))
    obtain ⟨_, m0, C0⟩ := Kd.R_reads' R07.out
    obtain ⟨_, m1, C1⟩ := Kd.R_reads' R17.out
    have C0 := Kd.C_below C0 (below_drew ((Below.refl w7.heap.size w7).alloc (Nat.le_refl _) (.cells #[.slice Y0 y0.length d0, .slice Y1 y1.length d1, .string s] 24)))
    have C1 := Kd.C_below C1 (below_drew ((Below.refl w7.heap.size w7).alloc (Nat.le_refl _) (.cells #[.slice Y0 y0.length d0, .slice Y1 y1.length d1, .string s] 24)))
    have BG20 := Aside0.mk (Blk.new w7 24 #[.slice Y0 y0.length d0, .slice Y1 y1.length d1, .string s]).drew
    have BD20 := Aside0.mk (BD7.out.alloc (.cells #[.slice Y0 y0.length d0, .slice Y1 y1.length d1, .string s] 24)).drew
    have BR20 := Aside0.mk (BR7.out.alloc (.cells #[.slice Y0 y0.length d0, .slice Y1 y1.length d1, .string s] 24)).drew
    have W20 := Aside0.mk (below_drew (W7.out.alloc W7.out.size (.cells #[.slice Y0 y0.length d0, .slice Y1 y1.length d1, .string s] 24)))
    have R020 := Kd.R_drewN (Kd.R_alloc R07.out (.cells #[.slice Y0 y0.length d0, .slice Y1 y1.length d1, .string s] 24)) 1
    have R120 := Kd.R_drewN (Kd.R_alloc R17.out (.cells #[.slice Y0 y0.length d0, .slice Y1 y1.length d1, .string s] 24)) 1
    generalize w7.alloc (.cells #[.slice Y0 y0.length d0, .slice Y1 y1.length d1, .string s] 24) = wg at BG20 BD20 BR20 W20 C0 C1 R020 R120 ⊢
    generalize w7.heap.size = g at BG20 ⊢
    have SUY : Aside0 (Calls Try.prog 23 #[.agg #[.slice Y0 y0.length d0, .slice Y1 y1.length d1, .string s]] wg.drew fun e w' => e = .returned (.agg (nums .u8 M).toArray) ∧ Below wg.drew.heap.size wg.drew w') := ⟨by
      rw [← HSU.out]
      exact imageSum_calls Y0 d0 y0 Y1 d1 y1 s wg.drew C0 m0 C1 m1 hLy⟩
    have R020 := Aside0.mk R020
    have R120 := Aside0.mk R120
    have M0 := Aside0.mk m0
    have M1 := Aside0.mk m1
    clear C0 C1 m0 m1 R07 R17 BD7 BR7 W7
    refine start_ (n := 5) (S := fun w' => Blk w' g 24 #[.slice Y0 y0.length d0, .slice Y1 y1.length d1, .string s] ∧ Blk w' (w.heap.size + 1) 32 (dArr L (.slice U1 r1.length u1) (.slice U2 r2.length u2) s M)) (ds := []) #[false, false, false, false, false] (by kernel_rfl) rfl rfl ⟨BG20.out, BD20.out⟩ (fun hHeld => ?_)
    refine pure_ (i := 2) (N := some 52) (v := ?_) (a' := ?_) #[false, false, true, false, false] rfl rfl (by kernel_rfl) (fun _ _ _ h => h) (Or.inl ⟨by rfl, ?_⟩) ?_ ?_
    rotate_left
    · intro w'
      go_simp
      with_reducible rfl
    rotate_left
    · simp only [Act.put, List.setIfInBounds_toArray, List.set_cons_zero, List.set_cons_succ, i64_w, i32_w]
      rfl
    refine take_ (i := 0) (N := some 50) (v := ?_) (a' := ?_) #[true, false, true, false, false] rfl rfl (by kernel_rfl) (fun _ _ _ h => h) (Or.inl ⟨by rfl, ?_⟩) hHeld ?_ ?_
    rotate_left
    · rintro w' ⟨s0, s1⟩
      refine row_loads 24 (.tmp 9) ?_ g ?_ s0 Try.underlying24 ?_ ?_
      · rfl
      · rfl
      · rfl
      · kernel_rfl
    rotate_left
    · simp only [Act.put, List.setIfInBounds_toArray, List.set_cons_zero, List.set_cons_succ, i64_w, i32_w]
      rfl
    refine take_ (i := 3) (N := some 53) (v := ?_) (a' := ?_) #[true, false, true, true, false] rfl rfl (by kernel_rfl) (fun _ _ _ h => h) (Or.inl ⟨by rfl, ?_⟩) hHeld ?_ ?_
    rotate_left
    · rintro w' ⟨s0, s1⟩
      refine mid_loads 29 (.tmp 52) ?_ (w.heap.size + 1) 35 ?_ (dArr_range w' _ L M hL.out.len hM.out.len _ _ s s1).2 Try.underlying29 ?_ ?_
      · rfl
      · rfl
      · rfl
      · rw [nums_length, hM.out.len]; kernel_rfl
    rotate_left
    · simp only [Act.put, List.setIfInBounds_toArray, List.set_cons_zero, List.set_cons_succ, i64_w, i32_w]
      rfl
    refine one_ (i := 1) (N := some 51) #[true, true, true, true, false] rfl rfl (by kernel_rfl) (by decide) (fun K hK => ?_)
    refine goes_ Try.func23 (by kernel_rfl) rfl #[.agg #[.slice Y0 y0.length d0, .slice Y1 y1.length d1, .string s]] (by rfl) rfl rfl (by simp only [List.map_toArray, List.map_cons, List.map_nil]; rfl) ?_
    with_reducible refine (SUY.out).mono ?_
    rintro e w8 ⟨rfl, hb⟩
    refine ⟨_, rfl, ?_⟩
    have BG21 := Aside0.mk (BG20.out.below hb BG20.out.lt)
    have BD21 := Aside0.mk (BD20.out.below hb BD20.out.lt)
    have BR21 := Aside0.mk (BR20.out.below hb BR20.out.lt)
    have W21 := Aside0.mk (below_then W20.out W20.out.size hb)
    have R021 := Aside0.mk (Kd.R_below R020.out hb)
    have R121 := Aside0.mk (Kd.R_below R120.out hb)
    clear hb
    refine hK.out _ _ ⟨BG21.out, BD21.out⟩ (fun hHeld => ?_)
    clear hK K
    refine norm_ (a' := ?_) ?_ ?_
    rotate_left
    · show Act.put _ (some 51) _ = _
      simp only [Act.put, List.setIfInBounds_toArray, List.set_cons_zero, List.set_cons_succ, i64_w, i32_w]
      rfl
    refine pure_ (i := 4) (N := some 54) (v := ?_) (a' := ?_) #[true, true, true, true, true] rfl rfl (by kernel_rfl) (fun _ _ _ h => h) (Or.inl ⟨by rfl, ?_⟩) ?_ ?_
    rotate_left
    · intro w'
      go_simp
      with_reducible rfl
    rotate_left
    · simp only [Act.put, List.setIfInBounds_toArray, List.set_cons_zero, List.set_cons_succ, i64_w, i32_w]
      rfl
    refine done_ (by kernel_rfl) ?_

    clear hHeld
    go_wp2_with (first | (refine wpList_load_row rfl 24 (.tmp 9) rfl g rfl 24 _ (0, 0) _ BG21.out Try.underlying24 rfl (by kernel_rfl) ?_) | (refine wpList_store_row rfl 24 (.tmp 4) (.tmp 56) rfl (w.heap.size + 1 + 1) _ rfl rfl 24 _ BR21.out (by kernel_rfl) (by kernel_rfl) (by kernel_rfl) ?_))
    have Q0 := R_setRow R021.out HLT5.out #[.slice Y0 y0.length d0, .slice Y1 y1.length d1, .string s]
    have Q1 := R_setRow R121.out HLT6.out #[.slice Y0 y0.length d0, .slice Y1 y1.length d1, .string s]
    exact bodyPost_ret (results_row_tmp (p := 4) (u := 5) (ty := 24) rfl _ _ (w.heap.size + 1 + 1) 24 _ _ rfl (BR21.out.setRow_ _) Try.underlying24 rfl (by kernel_rfl)) rfl ⟨Y0, d0, Y1, d1, rfl, (Kd.R_reads' Q0).2.2, (Kd.R_reads' Q0).2.1, (Kd.R_reads' Q1).2.2, (Kd.R_reads' Q1).2.1, below_setRow' W21.out (by omega) _⟩

  · rw [decide_eq_false h1] at q
    rw [decide_eq_true h2] at qe
    clear h1 h2
    go_enter Try.func15, Try.ntmps15
    go_wp2_with (rw [show (((w.alloc (.cells #[.slice A0 x.f0.length c0, .slice A1 x.f1.length c1, .string x.f2] 24)).alloc (.cells (dArr L (.slice U1 r1.length u1) (.slice U2 r2.length u2) s M) 32)).alloc (.cells #[.slice none 0 0, .slice none 0 0, .string ⟨#[]⟩] 24)) = w0 from HW0.out])
    refine start_ (n := 5) (S := fun w' => Blk w' w.heap.size 24 #[.slice A0 x.f0.length c0, .slice A1 x.f1.length c1, .string x.f2] ∧ Blk w' (w.heap.size + 1) 32 (dArr L (.slice U1 r1.length u1) (.slice U2 r2.length u2) s M)) (ds := []) #[false, false, false, false, false] (by kernel_rfl) rfl rfl ⟨BC1.out, BD1.out⟩ (fun hHeld => ?_)
    refine pure_ (i := 2) (N := some 12) (v := ?_) (a' := ?_) #[false, false, true, false, false] rfl rfl (by kernel_rfl) (fun _ _ _ h => h) (Or.inl ⟨by rfl, ?_⟩) ?_ ?_
    rotate_left
    · intro w'
      go_simp
      with_reducible rfl
    rotate_left
    · simp only [Act.put, List.setIfInBounds_toArray, List.set_cons_zero, List.set_cons_succ, i64_w, i32_w]
      rfl
    refine take_ (i := 0) (N := some 10) (v := ?_) (a' := ?_) #[true, false, true, false, false] rfl rfl (by kernel_rfl) (fun _ _ _ h => h) (Or.inl ⟨by rfl, ?_⟩) hHeld ?_ ?_
    rotate_left
    · rintro w' ⟨s0, s1⟩
      refine row_loads 24 (.tmp 2) ?_ w.heap.size ?_ s0 Try.underlying24 ?_ ?_
      · rfl
      · rfl
      · rfl
      · kernel_rfl
    rotate_left
    · simp only [Act.put, List.setIfInBounds_toArray, List.set_cons_zero, List.set_cons_succ, i64_w, i32_w]
      rfl
    refine take_ (i := 3) (N := some 13) (v := ?_) (a' := ?_) #[true, false, true, true, false] rfl rfl (by kernel_rfl) (fun _ _ _ h => h) (Or.inl ⟨by rfl, ?_⟩) hHeld ?_ ?_
    rotate_left
    · rintro w' ⟨s0, s1⟩
      refine mid_loads 29 (.tmp 12) ?_ (w.heap.size + 1) 0 ?_ (dArr_range w' _ L M hL.out.len hM.out.len _ _ s s1).1 Try.underlying29 ?_ ?_
      · rfl
      · rfl
      · rfl
      · rw [nums_length, hL.out.len]; kernel_rfl
    rotate_left
    · simp only [Act.put, List.setIfInBounds_toArray, List.set_cons_zero, List.set_cons_succ, i64_w, i32_w]
      rfl
    refine one_ (i := 1) (N := some 11) #[true, true, true, true, false] rfl rfl (by kernel_rfl) (by decide) (fun K hK => ?_)
    refine goes_ Try.func23 (by kernel_rfl) rfl #[.agg #[.slice A0 x.f0.length c0, .slice A1 x.f1.length c1, .string x.f2]] (by rfl) rfl rfl (by simp only [List.map_toArray, List.map_cons, List.map_nil]; rfl) ?_
    with_reducible refine (SUM.out _ W1.out).mono ?_
    rintro e w2 ⟨rfl, hb⟩
    refine ⟨_, rfl, ?_⟩
    have BC2 := Aside0.mk (BC1.out.below hb BC1.out.lt)
    have BD2 := Aside0.mk (BD1.out.below hb BD1.out.lt)
    have BR2 := Aside0.mk (BR1.out.below hb BR1.out.lt)
    have W2 := Aside0.mk (below_then W1.out W1.out.size hb)
    clear hb
    refine hK.out _ _ ⟨BC2.out, BD2.out⟩ (fun hHeld => ?_)
    clear hK K
    refine norm_ (a' := ?_) ?_ ?_
    rotate_left
    · show Act.put _ (some 11) _ = _
      simp only [Act.put, List.setIfInBounds_toArray, List.set_cons_zero, List.set_cons_succ, i64_w, i32_w]
      rfl
    refine pure_ (i := 4) (N := some 14) (v := ?_) (a' := ?_) #[true, true, true, true, true] rfl rfl (by kernel_rfl) (fun _ _ _ h => h) (Or.inl ⟨by rfl, ?_⟩) ?_ ?_
    rotate_left
    · intro w'
      go_simp
      with_reducible rfl
    rotate_left
    · simp only [Act.put, List.setIfInBounds_toArray, List.set_cons_zero, List.set_cons_succ, i64_w, i32_w]
      rfl
    refine done_ (by kernel_rfl) ?_

    clear hHeld
    go_wp2_with fail
    have BC3 := Aside0.mk BC2.out.drew
    have BD3 := Aside0.mk BD2.out.drew
    have BR3 := Aside0.mk BR2.out.drew
    have W3 := Aside0.mk (below_drew W2.out)
    refine start_ (n := 4) (S := fun w' => Blk w' (w.heap.size + 1) 32 (dArr L (.slice U1 r1.length u1) (.slice U2 r2.length u2) s M)) (ds := []) #[false, false, false, false] (by kernel_rfl) rfl rfl (BD3.out) (fun hHeld => ?_)
    refine pure_ (i := 1) (N := some 16) (v := ?_) (a' := ?_) #[false, true, false, false] rfl rfl (by kernel_rfl) (fun _ _ _ h => h) (Or.inl ⟨by rfl, ?_⟩) ?_ ?_
    rotate_left
    · intro w'
      go_simp
      with_reducible rfl
    rotate_left
    · simp only [Act.put, List.setIfInBounds_toArray, List.set_cons_zero, List.set_cons_succ, i64_w, i32_w]
      rfl
    refine take_ (i := 2) (N := some 17) (v := ?_) (a' := ?_) #[false, true, true, false] rfl rfl (by kernel_rfl) (fun _ _ _ h => h) (Or.inl ⟨by rfl, ?_⟩) hHeld ?_ ?_
    rotate_left
    · intro w' s0
      refine mid_loads 29 (.tmp 16) ?_ (w.heap.size + 1) 0 ?_ (dArr_range w' _ L M hL.out.len hM.out.len _ _ s s0).1 Try.underlying29 ?_ ?_
      · rfl
      · rfl
      · rfl
      · rw [nums_length, hL.out.len]; kernel_rfl
    rotate_left
    · simp only [Act.put, List.setIfInBounds_toArray, List.set_cons_zero, List.set_cons_succ, i64_w, i32_w]
      rfl
    refine one_ (i := 0) (N := some 15) #[true, true, true, false] rfl rfl (by kernel_rfl) (by decide) (fun K hK => ?_)
    refine goes_ Try.func30 (by kernel_rfl) rfl #[] (by rfl) rfl rfl (by simp only [List.map_toArray, List.map_nil]) ?_
    with_reducible refine (nothing_calls _).mono ?_
    rintro e w4 ⟨rfl, hb⟩
    refine ⟨_, rfl, ?_⟩
    have BC4 := Aside0.mk (BC3.out.below hb BC3.out.lt)
    have BD4 := Aside0.mk (BD3.out.below hb BD3.out.lt)
    have BR4 := Aside0.mk (BR3.out.below hb BR3.out.lt)
    have W4 := Aside0.mk (below_then W3.out W3.out.size hb)
    clear hb
    refine hK.out _ _ (BD4.out) (fun hHeld => ?_)
    clear hK K
    refine norm_ (a' := ?_) ?_ ?_
    rotate_left
    · show Act.put _ (some 15) _ = _
      simp only [Act.put, List.setIfInBounds_toArray, List.set_cons_zero, List.set_cons_succ, i64_w, i32_w]
      rfl
    refine pure_ (i := 3) (N := some 18) (v := ?_) (a' := ?_) #[true, true, true, true] rfl rfl (by kernel_rfl) (fun _ _ _ h => h) (Or.inl ⟨by rfl, ?_⟩) ?_ ?_
    rotate_left
    · intro w'
      go_simp
      with_reducible rfl
    rotate_left
    · simp only [Act.put, List.setIfInBounds_toArray, List.set_cons_zero, List.set_cons_succ, i64_w, i32_w]
      rfl
    refine done_ (by kernel_rfl) ?_

    clear hHeld
    obtain ⟨X0, x0, X1, x1, hX0, hx0, hX1, hx1, BYE⟩ : ∃ X0 x0 X1 x1, Kd.C Kd.string w X0 y.f0.length y.f0 ∧ y.f0.length ≤ x0 ∧ Kd.C Kd.string w X1 y.f1.length y.f1 ∧ y.f1.length ≤ x1 ∧ Aside0 (Blk (w4.setRow w.heap.size #[.slice none 0 0, .slice none 0 0, .string ⟨#[]⟩]) w.heap.size 24 #[.slice X0 y.f0.length x0, .slice X1 y.f1.length x1, .string y.f2]) := by
      rw [hy]
      exact ⟨none, 0, none, 0, Kd.C_nil _ _, Nat.le_refl _, Kd.C_nil _ _, Nat.le_refl _, ⟨BC4.out.setRow_ _⟩⟩
    have BDE := Aside0.mk (BD4.out.setRow_far (k := w.heap.size) (by omega) #[.slice none 0 0, .slice none 0 0, .string ⟨#[]⟩])
    have BRE := Aside0.mk (BR4.out.setRow_far (k := w.heap.size) (by omega) #[.slice none 0 0, .slice none 0 0, .string ⟨#[]⟩])
    have WE := Aside0.mk (below_setRow' W4.out (Nat.le_refl _) #[.slice none 0 0, .slice none 0 0, .string ⟨#[]⟩])
    have BC4' := BC4
    generalize hwE : w4.setRow w.heap.size #[.slice none 0 0, .slice none 0 0, .string ⟨#[]⟩] = wE at BYE BDE BRE WE
    have HWE := Aside0.mk hwE
    clear BC1 BC2 BC3 BD1 BD2 BD3 BD4 BR1 BR2 BR3 BR4 W1 W2 W3 W4 hy SUM q qe hwE nothing_calls
    have yc0 : wE.cell? ⟨w.heap.size, 0, none⟩ = some (.slice X0 y.f0.length x0) := BYE.out.cell 0
    have dc1 : wE.cell? ⟨w.heap.size + 1, 32, none⟩ = some (.slice U1 r1.length u1) := (BDE.out.cell 32).trans A32.out
    go_wp2_with (first | (refine wpList_store_row rfl 24 (.tmp 2) (.tmp 20) rfl w.heap.size #[.slice none 0 0, .slice none 0 0, .string ⟨#[]⟩] rfl rfl 24 _ BC4'.out (by kernel_rfl) (by kernel_rfl) (by kernel_rfl) ?_; rw [HWE.out]) | ((with_reducible refine (delta_done.calls K X0 x0 y.f0 U1 u1 r1 y0 0 _ (Kd.C_below hX0 WE.out) hx0 (Kd.C_below hU1 WE.out) hu1 hd0).mono ?_); rintro e w5 ⟨v1, rfl, hR, hb⟩; obtain ⟨Y0, d0, rfl⟩ := Kd.R_slice hR; have HLT5 := BRE.out.lt; have HLT5 := Aside0.mk HLT5; have BY5 := Aside0.mk (BYE.out.below hb BYE.out.lt); have BD5 := Aside0.mk (BDE.out.below hb BDE.out.lt); have BR5 := Aside0.mk (BRE.out.below hb BRE.out.lt); have W5 := Aside0.mk (below_then WE.out WE.out.size hb); have R05 := Aside0.mk hR; have yc1 : w5.cell? ⟨w.heap.size, 1, none⟩ = some (.slice X1 y.f1.length x1) := BY5.out.cell 1; have dc2 : w5.cell? ⟨w.heap.size + 1, 33, none⟩ = some (.slice U2 r2.length u2) := (BD5.out.cell 33).trans A33.out; clear hb hR yc0 dc1) | ((with_reducible refine (delta_done.calls K X1 x1 y.f1 U2 u2 r2 y1 0 _ (Kd.C_below hX1 W5.out) hx1 (Kd.C_below hU2 W5.out) hu2 hd1).mono ?_); rintro e w7 ⟨v2, rfl, hR, hb⟩; obtain ⟨Y1, d1, rfl⟩ := Kd.R_slice hR; have HLT6 := Aside0.mk BR5.out.lt; have BD7 := Aside0.mk (BD5.out.below hb BD5.out.lt); have BR7 := Aside0.mk (BR5.out.below hb BR5.out.lt); have W7 := Aside0.mk (below_then W5.out W5.out.size hb); have R07 := Aside0.mk (Kd.R_below R05.out hb); have R17 := Aside0.mk hR; have dc3 : w7.cell? ⟨w.heap.size + 1, 34, none⟩ = some (.string s) := (BD7.out.cell 34).trans A34.out; clear hb hR yc1 dc2))
    obtain ⟨_, m0, C0⟩ := Kd.R_reads' R07.out
    obtain ⟨_, m1, C1⟩ := Kd.R_reads' R17.out
    have C0 := Kd.C_below C0 (below_drew ((Below.refl w7.heap.size w7).alloc (Nat.le_refl _) (.cells #[.slice Y0 y0.length d0, .slice Y1 y1.length d1, .string s] 24)))
    have C1 := Kd.C_below C1 (below_drew ((Below.refl w7.heap.size w7).alloc (Nat.le_refl _) (.cells #[.slice Y0 y0.length d0, .slice Y1 y1.length d1, .string s] 24)))
    have BG20 := Aside0.mk (Blk.new w7 24 #[.slice Y0 y0.length d0, .slice Y1 y1.length d1, .string s]).drew
    have BD20 := Aside0.mk (BD7.out.alloc (.cells #[.slice Y0 y0.length d0, .slice Y1 y1.length d1, .string s] 24)).drew
    have BR20 := Aside0.mk (BR7.out.alloc (.cells #[.slice Y0 y0.length d0, .slice Y1 y1.length d1, .string s] 24)).drew
    have W20 := Aside0.mk (below_drew (W7.out.alloc W7.out.size (.cells #[.slice Y0 y0.length d0, .slice Y1 y1.length d1, .string s] 24)))
    have R020 := Kd.R_drewN (Kd.R_alloc R07.out (.cells #[.slice Y0 y0.length d0, .slice Y1 y1.length d1, .string s] 24)) 1
    have R120 := Kd.R_drewN (Kd.R_alloc R17.out (.cells #[.slice Y0 y0.length d0, .slice Y1 y1.length d1, .string s] 24)) 1
    generalize w7.alloc (.cells #[.slice Y0 y0.length d0, .slice Y1 y1.length d1, .string s] 24) = wg at BG20 BD20 BR20 W20 C0 C1 R020 R120 ⊢
    generalize w7.heap.size = g at BG20 ⊢
    have SUY : Aside0 (Calls Try.prog 23 #[.agg #[.slice Y0 y0.length d0, .slice Y1 y1.length d1, .string s]] wg.drew fun e w' => e = .returned (.agg (nums .u8 M).toArray) ∧ Below wg.drew.heap.size wg.drew w') := ⟨by
      rw [← HSU.out]
      exact imageSum_calls Y0 d0 y0 Y1 d1 y1 s wg.drew C0 m0 C1 m1 hLy⟩
    have R020 := Aside0.mk R020
    have R120 := Aside0.mk R120
    have M0 := Aside0.mk m0
    have M1 := Aside0.mk m1
    clear C0 C1 m0 m1 R07 R17 BD7 BR7 W7
    refine start_ (n := 5) (S := fun w' => Blk w' g 24 #[.slice Y0 y0.length d0, .slice Y1 y1.length d1, .string s] ∧ Blk w' (w.heap.size + 1) 32 (dArr L (.slice U1 r1.length u1) (.slice U2 r2.length u2) s M)) (ds := []) #[false, false, false, false, false] (by kernel_rfl) rfl rfl ⟨BG20.out, BD20.out⟩ (fun hHeld => ?_)
    refine pure_ (i := 2) (N := some 52) (v := ?_) (a' := ?_) #[false, false, true, false, false] rfl rfl (by kernel_rfl) (fun _ _ _ h => h) (Or.inl ⟨by rfl, ?_⟩) ?_ ?_
    rotate_left
    · intro w'
      go_simp
      with_reducible rfl
    rotate_left
    · simp only [Act.put, List.setIfInBounds_toArray, List.set_cons_zero, List.set_cons_succ, i64_w, i32_w]
      rfl
    refine take_ (i := 0) (N := some 50) (v := ?_) (a' := ?_) #[true, false, true, false, false] rfl rfl (by kernel_rfl) (fun _ _ _ h => h) (Or.inl ⟨by rfl, ?_⟩) hHeld ?_ ?_
    rotate_left
    · rintro w' ⟨s0, s1⟩
      refine row_loads 24 (.tmp 9) ?_ g ?_ s0 Try.underlying24 ?_ ?_
      · rfl
      · rfl
      · rfl
      · kernel_rfl
    rotate_left
    · simp only [Act.put, List.setIfInBounds_toArray, List.set_cons_zero, List.set_cons_succ, i64_w, i32_w]
      rfl
    refine take_ (i := 3) (N := some 53) (v := ?_) (a' := ?_) #[true, false, true, true, false] rfl rfl (by kernel_rfl) (fun _ _ _ h => h) (Or.inl ⟨by rfl, ?_⟩) hHeld ?_ ?_
    rotate_left
    · rintro w' ⟨s0, s1⟩
      refine mid_loads 29 (.tmp 52) ?_ (w.heap.size + 1) 35 ?_ (dArr_range w' _ L M hL.out.len hM.out.len _ _ s s1).2 Try.underlying29 ?_ ?_
      · rfl
      · rfl
      · rfl
      · rw [nums_length, hM.out.len]; kernel_rfl
    rotate_left
    · simp only [Act.put, List.setIfInBounds_toArray, List.set_cons_zero, List.set_cons_succ, i64_w, i32_w]
      rfl
    refine one_ (i := 1) (N := some 51) #[true, true, true, true, false] rfl rfl (by kernel_rfl) (by decide) (fun K hK => ?_)
    refine goes_ Try.func23 (by kernel_rfl) rfl #[.agg #[.slice Y0 y0.length d0, .slice Y1 y1.length d1, .string s]] (by rfl) rfl rfl (by simp only [List.map_toArray, List.map_cons, List.map_nil]; rfl) ?_
    with_reducible refine (SUY.out).mono ?_
    rintro e w8 ⟨rfl, hb⟩
    refine ⟨_, rfl, ?_⟩
    have BG21 := Aside0.mk (BG20.out.below hb BG20.out.lt)
    have BD21 := Aside0.mk (BD20.out.below hb BD20.out.lt)
    have BR21 := Aside0.mk (BR20.out.below hb BR20.out.lt)
    have W21 := Aside0.mk (below_then W20.out W20.out.size hb)
    have R021 := Aside0.mk (Kd.R_below R020.out hb)
    have R121 := Aside0.mk (Kd.R_below R120.out hb)
    clear hb
    refine hK.out _ _ ⟨BG21.out, BD21.out⟩ (fun hHeld => ?_)
    clear hK K
    refine norm_ (a' := ?_) ?_ ?_
    rotate_left
    · show Act.put _ (some 51) _ = _
      simp only [Act.put, List.setIfInBounds_toArray, List.set_cons_zero, List.set_cons_succ, i64_w, i32_w]
      rfl
    refine pure_ (i := 4) (N := some 54) (v := ?_) (a' := ?_) #[true, true, true, true, true] rfl rfl (by kernel_rfl) (fun _ _ _ h => h) (Or.inl ⟨by rfl, ?_⟩) ?_ ?_
    rotate_left
    · intro w'
      go_simp
      with_reducible rfl
    rotate_left
    · simp only [Act.put, List.setIfInBounds_toArray, List.set_cons_zero, List.set_cons_succ, i64_w, i32_w]
      rfl
    refine done_ (by kernel_rfl) ?_

    clear hHeld
    go_wp2_with (first | (refine wpList_load_row rfl 24 (.tmp 9) rfl g rfl 24 _ (0, 0) _ BG21.out Try.underlying24 rfl (by kernel_rfl) ?_) | (refine wpList_store_row rfl 24 (.tmp 4) (.tmp 56) rfl (w.heap.size + 1 + 1) _ rfl rfl 24 _ BR21.out (by kernel_rfl) (by kernel_rfl) (by kernel_rfl) ?_))
    have Q0 := R_setRow R021.out HLT5.out #[.slice Y0 y0.length d0, .slice Y1 y1.length d1, .string s]
    have Q1 := R_setRow R121.out HLT6.out #[.slice Y0 y0.length d0, .slice Y1 y1.length d1, .string s]
    exact bodyPost_ret (results_row_tmp (p := 4) (u := 5) (ty := 24) rfl _ _ (w.heap.size + 1 + 1) 24 _ _ rfl (BR21.out.setRow_ _) Try.underlying24 rfl (by kernel_rfl)) rfl ⟨Y0, d0, Y1, d1, rfl, (Kd.R_reads' Q0).2.2, (Kd.R_reads' Q0).2.1, (Kd.R_reads' Q1).2.2, (Kd.R_reads' Q1).2.1, below_setRow' W21.out (by omega) _⟩


end Go.Proofs.Ytoljjgabgdifbaa.H
namespace Go.Proofs.Ytoljjgabgdifbaa.H
open Go.RowKit Go.Proofs.YtoljjgabgdifbaaW.PrintWords Go.Proofs.YtoljjgabgdifbaaW.PrintLast Go.Proofs.YtoljjgabgdifbaaW.PrintMore
set_option linter.unusedVariables false
set_option linter.unusedSimpArgs false

theorem loadAt_row {w : World} {g : Nat} {t ty : TypeId} {cs : Array Value} {d : TypeDesc} (hg : Blk w g t cs) (hu : Try.prog.underlying ty = some d) (hd : d.isRow = true) (hi : (Try.prog.info? ty).map (·.size) = some cs.size) :
    (Instr.loadAt ty (.pointer (some ⟨g, 0, none⟩))).run Try.prog w = .ok (.agg cs) w := by
  have z := run_loadAt_mid (P := Try.prog) w g 0 ty cs.toList d (fun j v hv => by rw [Nat.zero_add, hg.cell, ← hv]; simp) hu hd (by rw [Array.length_toList]; exact hi)
  simpa using z
theorem imgs3 {w : World} {g : Nat} (A0 : Option Addr) (c0 : Nat) (A1 : Option Addr) (c1 : Nat) (a : S24) (P0 : Option Addr) (p0 : Nat) (P1 : Option Addr) (p1 : Nat) (b : S24) (Q0 : Option Addr) (q0 : Nat) (Q1 : Option Addr) (q1 : Nat) (c : S24)
    (hA0 : Kd.C Kd.string w A0 a.f0.length a.f0) (ha0 : a.f0.length ≤ c0) (hA1 : Kd.C Kd.string w A1 a.f1.length a.f1) (ha1 : a.f1.length ≤ c1)
    (hP0 : Kd.C Kd.string w P0 b.f0.length b.f0) (hp0 : b.f0.length ≤ p0) (hP1 : Kd.C Kd.string w P1 b.f1.length b.f1) (hp1 : b.f1.length ≤ p1)
    (hQ0 : Kd.C Kd.string w Q0 c.f0.length c.f0) (hq0 : c.f0.length ≤ q0) (hQ1 : Kd.C Kd.string w Q1 c.f1.length c.f1) (hq1 : c.f1.length ≤ q1)
    (h : Blk w g 24 #[.slice A0 a.f0.length c0, .slice A1 a.f1.length c1, .string a.f2, .slice P0 b.f0.length p0, .slice P1 b.f1.length p1, .string b.f2, .slice Q0 c.f0.length q0, .slice Q1 c.f1.length q1, .string c.f2]) : Kd.C k24 w (some ⟨g, 0, none⟩) [a, b, c].length [a, b, c] := by
  refine ⟨rfl, by simp, fun _ => ⟨_, rfl, fun j p hp => ?_⟩⟩
  match j, hp with
  | 0, hp =>
    obtain rfl : a = p := by simpa using hp
    refine ⟨[.slice A0 a.f0.length c0, .slice A1 a.f1.length c1, .string a.f2], rfl, k24_mk w a ha0 hA0 ha1 hA1, fun i u hu => ?_⟩
    rw [add_plain, h.cell]
    match i, hu with
    | 0, hu => exact hu
    | 1, hu => exact hu
    | 2, hu => exact hu
    | i + 3, hu => simp at hu
  | 1, hp =>
    obtain rfl : b = p := by simpa using hp
    refine ⟨[.slice P0 b.f0.length p0, .slice P1 b.f1.length p1, .string b.f2], rfl, k24_mk w b hp0 hP0 hp1 hP1, fun i u hu => ?_⟩
    rw [add_plain, h.cell]
    match i, hu with
    | 0, hu => exact hu
    | 1, hu => exact hu
    | 2, hu => exact hu
    | i + 3, hu => simp at hu
  | 2, hp =>
    obtain rfl : c = p := by simpa using hp
    refine ⟨[.slice Q0 c.f0.length q0, .slice Q1 c.f1.length q1, .string c.f2], rfl, k24_mk w c hq0 hQ0 hq1 hQ1, fun i u hu => ?_⟩
    rw [add_plain, h.cell]
    match i, hu with
    | 0, hu => exact hu
    | 1, hu => exact hu
    | 2, hu => exact hu
    | i + 3, hu => simp at hu
  | j + 3, hp => simp at hp

set_option maxRecDepth 100000 in
set_option maxHeartbeats 8000000 in
theorem told_calls (A0 : Option Addr) (c0 : Nat) (A1 : Option Addr) (c1 : Nat) (a : S24) (P0 : Option Addr) (p0 : Nat) (P1 : Option Addr) (p1 : Nat) (b : S24) (Q0 : Option Addr) (q0 : Nat) (Q1 : Option Addr) (q1 : Nat) (c : S24) (w : World)
    (hA0 : Kd.C Kd.string w A0 a.f0.length a.f0) (ha0 : a.f0.length ≤ c0) (hA1 : Kd.C Kd.string w A1 a.f1.length a.f1) (ha1 : a.f1.length ≤ c1)
    (hP0 : Kd.C Kd.string w P0 b.f0.length b.f0) (hp0 : b.f0.length ≤ p0) (hP1 : Kd.C Kd.string w P1 b.f1.length b.f1) (hp1 : b.f1.length ≤ p1)
    (hQ0 : Kd.C Kd.string w Q0 c.f0.length c.f0) (hq0 : c.f0.length ≤ q0) (hQ1 : Kd.C Kd.string w Q1 c.f1.length c.f1) (hq1 : c.f1.length ≤ q1)
    (hLa : (imageL a.f0 a.f1 a.f2).length ≤ 140737488355328) (hLb : (imageL b.f0 b.f1 b.f2).length ≤ 140737488355328) (hLc : (imageL c.f0 c.f1 c.f2).length ≤ 140737488355328)
    (hma : a.f0.length ≤ 5864062014805 ∧ a.f1.length ≤ 5864062014805) (hmb : b.f0.length ≤ 5864062014805 ∧ b.f1.length ≤ 5864062014805) (hmc : c.f0.length ≤ 5864062014805 ∧ c.f1.length ≤ 5864062014805) :
    Calls Try.prog 5 #[.agg #[.slice A0 a.f0.length c0, .slice A1 a.f1.length c1, .string a.f2], .agg #[.slice P0 b.f0.length p0, .slice P1 b.f1.length p1, .string b.f2], .agg #[.slice Q0 c.f0.length q0, .slice Q1 c.f1.length q1, .string c.f2]] w fun e w' => e = .returned (.bool true) ∧ Below w.heap.size w w' := by
  have BA0 := ((Blk.new w 24 #[.slice A0 a.f0.length c0, .slice A1 a.f1.length c1, .string a.f2]).alloc (.cells #[.slice P0 b.f0.length p0, .slice P1 b.f1.length p1, .string b.f2] 24)).alloc (.cells #[.slice Q0 c.f0.length q0, .slice Q1 c.f1.length q1, .string c.f2] 24)
  have BB0 := (Blk.new (w.alloc (.cells #[.slice A0 a.f0.length c0, .slice A1 a.f1.length c1, .string a.f2] 24)) 24 #[.slice P0 b.f0.length p0, .slice P1 b.f1.length p1, .string b.f2]).alloc (.cells #[.slice Q0 c.f0.length q0, .slice Q1 c.f1.length q1, .string c.f2] 24)
  have BC0 := Blk.new ((w.alloc (.cells #[.slice A0 a.f0.length c0, .slice A1 a.f1.length c1, .string a.f2] 24)).alloc (.cells #[.slice P0 b.f0.length p0, .slice P1 b.f1.length p1, .string b.f2] 24)) 24 #[.slice Q0 c.f0.length q0, .slice Q1 c.f1.length q1, .string c.f2]
  have W0 := (((Below.refl w.heap.size w).alloc (Nat.le_refl _) (.cells #[.slice A0 a.f0.length c0, .slice A1 a.f1.length c1, .string a.f2] 24)).alloc (by simp) (.cells #[.slice P0 b.f0.length p0, .slice P1 b.f1.length p1, .string b.f2] 24)).alloc (by simp; omega) (.cells #[.slice Q0 c.f0.length q0, .slice Q1 c.f1.length q1, .string c.f2] 24)
  rw [sz] at BB0
  rw [sz, sz] at BC0
  generalize hw0 : (((w.alloc (.cells #[.slice A0 a.f0.length c0, .slice A1 a.f1.length c1, .string a.f2] 24)).alloc (.cells #[.slice P0 b.f0.length p0, .slice P1 b.f1.length p1, .string b.f2] 24)).alloc (.cells #[.slice Q0 c.f0.length q0, .slice Q1 c.f1.length q1, .string c.f2] 24)) = w0 at BA0 BB0 BC0 W0
  have HW0 := Aside0.mk hw0
  clear hw0
  obtain ⟨kg, rg, hg⟩ := great_f 5864062014805 [a, b, c] (by simp) (by simp; omega) (Nat.le_refl _)
  obtain ⟨ri, hi, hir⟩ := images_f a c hmc.1 hmc.2 (k := 5864062014806) (by omega)
  have hap := apart_f [a, b, c] (by simp) (by simp only [List.mem_cons, List.not_mem_nil, or_false]; rintro x (rfl | rfl | rfl); exact ⟨hma.1, hma.2, hLa⟩; exact ⟨hmb.1, hmb.2, hLb⟩; exact ⟨hmc.1, hmc.2, hLc⟩) (k := 281474976711656) (by simp)
  have W1 := W0.alloc W0.size (.cells #[.slice A0 a.f0.length c0, .slice A1 a.f1.length c1, .string a.f2, .slice P0 b.f0.length p0, .slice P1 b.f1.length p1, .string b.f2, .slice Q0 c.f0.length q0, .slice Q1 c.f1.length q1, .string c.f2] 24)
  have GC := Aside0.mk (hibernaclelaw35_great.calls kg _ 3 [a, b, c] rg _ (imgs3 A0 c0 A1 c1 a P0 p0 P1 p1 b Q0 q0 Q1 q1 c (Kd.C_below hA0 W1) ha0 (Kd.C_below hA1 W1) ha1 (Kd.C_below hP0 W1) hp0 (Kd.C_below hP1 W1) hp1 (Kd.C_below hQ0 W1) hq0 (Kd.C_below hQ1 W1) hq1 (Blk.new w0 24 #[.slice A0 a.f0.length c0, .slice A1 a.f1.length c1, .string a.f2, .slice P0 b.f0.length p0, .slice P1 b.f1.length p1, .string b.f2, .slice Q0 c.f0.length q0, .slice Q1 c.f1.length q1, .string c.f2])) (by simp) hg)
  have BA1 := Aside0.mk (BA0.alloc (.cells #[.slice A0 a.f0.length c0, .slice A1 a.f1.length c1, .string a.f2, .slice P0 b.f0.length p0, .slice P1 b.f1.length p1, .string b.f2, .slice Q0 c.f0.length q0, .slice Q1 c.f1.length q1, .string c.f2] 24))
  have BB1 := Aside0.mk (BB0.alloc (.cells #[.slice A0 a.f0.length c0, .slice A1 a.f1.length c1, .string a.f2, .slice P0 b.f0.length p0, .slice P1 b.f1.length p1, .string b.f2, .slice Q0 c.f0.length q0, .slice Q1 c.f1.length q1, .string c.f2] 24))
  have BC1 := Aside0.mk (BC0.alloc (.cells #[.slice A0 a.f0.length c0, .slice A1 a.f1.length c1, .string a.f2, .slice P0 b.f0.length p0, .slice P1 b.f1.length p1, .string b.f2, .slice Q0 c.f0.length q0, .slice Q1 c.f1.length q1, .string c.f2] 24))
  have BA0 := Aside0.mk BA0
  have BB0 := Aside0.mk BB0
  have BC0 := Aside0.mk BC0
  have W0 := Aside0.mk W0
  have W1 := Aside0.mk W1
  have APT := Aside0.mk (fun h => aptB_apt (l := (noth :: [a, b, c]).map imgB) h)
  generalize aptB ((noth :: [a, b, c]).map imgB) = ra at hap APT
  clear hg
  go_enter Try.func5, Try.ntmps5
  go_wp2_with (first | (rw [show (((w.alloc (.cells #[.slice A0 a.f0.length c0, .slice A1 a.f1.length c1, .string a.f2] 24)).alloc (.cells #[.slice P0 b.f0.length p0, .slice P1 b.f1.length p1, .string b.f2] 24)).alloc (.cells #[.slice Q0 c.f0.length q0, .slice Q1 c.f1.length q1, .string c.f2] 24)) = w0 from HW0.out]) | (refine wpList_load_midg (by rfl) 24 (.tmp 3) rfl w.heap.size 0 rfl _ (loadAt_row BA0.out Try.underlying24 rfl (by kernel_rfl)) ?_) | (refine wpList_load_midg (by rfl) 24 (.tmp 4) rfl (w.heap.size + 1) 0 rfl _ (loadAt_row BB0.out Try.underlying24 rfl (by kernel_rfl)) ?_) | (refine wpList_load_midg (by rfl) 24 (.tmp 5) rfl (w.heap.size + 1 + 1) 0 rfl _ (loadAt_row BC0.out Try.underlying24 rfl (by kernel_rfl)) ?_))
  refine (GC.out).mono ?_
  rintro e w2 ⟨rfl, hb⟩
  have BA2 := Aside0.mk (BA1.out.below hb BA1.out.lt); have BB2 := Aside0.mk (BB1.out.below hb BB1.out.lt); have BC2 := Aside0.mk (BC1.out.below hb BC1.out.lt); have W2 := Aside0.mk (below_then W1.out W1.out.size hb)
  clear hb GC BA0 BB0 BC0 W0 BA1 BB1 BC1 W1 HW0
  cases rg with
  | true =>
    go_wp2_with ((with_reducible refine (fixed_calls _).mono ?_); rintro e wf ⟨rfl, hb⟩; have WF := Aside0.mk (below_then W2.out W2.out.size hb); clear hb)
    go_wp2_with fail
    go_ret
    exact ⟨rfl, WF.out⟩
  | false =>
    go_wp2_with (first | (refine wpList_load_midg (by rfl) 24 (.tmp 3) rfl w.heap.size 0 rfl _ (loadAt_row BA2.out Try.underlying24 rfl (by kernel_rfl)) ?_) | (refine wpList_load_midg (by rfl) 24 (.tmp 4) rfl (w.heap.size + 1) 0 rfl _ (loadAt_row BB2.out Try.underlying24 rfl (by kernel_rfl)) ?_) | (refine wpList_load_midg (by rfl) 24 (.tmp 5) rfl (w.heap.size + 1 + 1) 0 rfl _ (loadAt_row BC2.out Try.underlying24 rfl (by kernel_rfl)) ?_))
    refine (hibernacleref35_Images.calls 5864062014806 A0 c0 a.f0 A1 c1 a.f1 a.f2 Q0 q0 c.f0 Q1 q1 c.f1 c.f2 ri w2 (Kd.C_below hA0 W2.out) ha0 (Kd.C_below hA1 W2.out) ha1 (Kd.C_below hQ0 W2.out) hq0 (Kd.C_below hQ1 W2.out) hq1 hi).mono ?_
    rintro e w3 ⟨rfl, hb⟩
    have BA3 := Aside0.mk (BA2.out.below hb BA2.out.lt); have BB3 := Aside0.mk (BB2.out.below hb BB2.out.lt); have BC3 := Aside0.mk (BC2.out.below hb BC2.out.lt); have W3 := Aside0.mk (below_then W2.out W2.out.size hb)
    clear hb BA2 BB2 BC2 W2
    cases ri with
    | true =>
      go_wp2_with ((with_reducible refine (fixed_calls _).mono ?_); rintro e wf ⟨rfl, hb⟩; have WF := Aside0.mk (below_then W3.out W3.out.size hb); clear hb)
      go_wp2_with fail
      go_ret
      exact ⟨rfl, WF.out⟩
    | false =>
      have hac : a ≠ c := fun h => by simpa using hir.2 h
      have W4 := W3.out.alloc W3.out.size (.cells #[.slice A0 a.f0.length c0, .slice A1 a.f1.length c1, .string a.f2, .slice P0 b.f0.length p0, .slice P1 b.f1.length p1, .string b.f2, .slice Q0 c.f0.length q0, .slice Q1 c.f1.length q1, .string c.f2] 24)
      have AC := Aside0.mk (hibernaclelaw35_apart.calls 281474976711656 _ 3 [a, b, c] ra _ (imgs3 A0 c0 A1 c1 a P0 p0 P1 p1 b Q0 q0 Q1 q1 c (Kd.C_below hA0 W4) ha0 (Kd.C_below hA1 W4) ha1 (Kd.C_below hP0 W4) hp0 (Kd.C_below hP1 W4) hp1 (Kd.C_below hQ0 W4) hq0 (Kd.C_below hQ1 W4) hq1 (Blk.new w3 24 #[.slice A0 a.f0.length c0, .slice A1 a.f1.length c1, .string a.f2, .slice P0 b.f0.length p0, .slice P1 b.f1.length p1, .string b.f2, .slice Q0 c.f0.length q0, .slice Q1 c.f1.length q1, .string c.f2])) (by simp) hap)
      have BA4 := Aside0.mk (BA3.out.alloc (.cells #[.slice A0 a.f0.length c0, .slice A1 a.f1.length c1, .string a.f2, .slice P0 b.f0.length p0, .slice P1 b.f1.length p1, .string b.f2, .slice Q0 c.f0.length q0, .slice Q1 c.f1.length q1, .string c.f2] 24))
      have BB4 := Aside0.mk (BB3.out.alloc (.cells #[.slice A0 a.f0.length c0, .slice A1 a.f1.length c1, .string a.f2, .slice P0 b.f0.length p0, .slice P1 b.f1.length p1, .string b.f2, .slice Q0 c.f0.length q0, .slice Q1 c.f1.length q1, .string c.f2] 24))
      have BC4 := Aside0.mk (BC3.out.alloc (.cells #[.slice A0 a.f0.length c0, .slice A1 a.f1.length c1, .string a.f2, .slice P0 b.f0.length p0, .slice P1 b.f1.length p1, .string b.f2, .slice Q0 c.f0.length q0, .slice Q1 c.f1.length q1, .string c.f2] 24))
      have W4 := Aside0.mk W4
      clear hir hap hi
      go_wp2_with (first | (refine wpList_load_midg (by rfl) 24 (.tmp 3) rfl w.heap.size 0 rfl _ (loadAt_row BA3.out Try.underlying24 rfl (by kernel_rfl)) ?_) | (refine wpList_load_midg (by rfl) 24 (.tmp 4) rfl (w.heap.size + 1) 0 rfl _ (loadAt_row BB3.out Try.underlying24 rfl (by kernel_rfl)) ?_) | (refine wpList_load_midg (by rfl) 24 (.tmp 5) rfl (w.heap.size + 1 + 1) 0 rfl _ (loadAt_row BC3.out Try.underlying24 rfl (by kernel_rfl)) ?_))
      refine (AC.out).mono ?_
      rintro e w5 ⟨rfl, hb⟩
      have BA5 := Aside0.mk (BA4.out.below hb BA4.out.lt); have BB5 := Aside0.mk (BB4.out.below hb BB4.out.lt); have BC5 := Aside0.mk (BC4.out.below hb BC4.out.lt); have W5 := Aside0.mk (below_then W4.out W4.out.size hb)
      clear hb AC BA3 BB3 BC3 W3 BA4 BB4 BC4 W4
      cases ra with
      | false =>
        go_wp2_with ((with_reducible refine (fixed_calls _).mono ?_); rintro e wf ⟨rfl, hb⟩; have WF := Aside0.mk (below_then W5.out W5.out.size hb); clear hb)
        go_wp2_with fail
        go_ret
        exact ⟨rfl, WF.out⟩
      | true =>
        have apt := APT.out rfl
        rw [List.length_map] at apt
        have iNA : iSum noth = iSum a → noth = a := fun h => apt_inj apt (i := 0) (j := 1) (by simp) (by simp) h
        have iCA : iSum c = iSum a → c = a := fun h => apt_inj apt (i := 3) (j := 1) (by simp) (by simp) h
        have iCN : iSum c = iSum noth → c = noth := fun h => apt_inj apt (i := 3) (j := 0) (by simp) (by simp) h
        have hr1 := writes_f (aOf a b).f0 b.f0 hmb.1 (k := 5864062014806) (by omega)
        have hr2 := writes_f (aOf a b).f1 b.f1 hmb.2 (k := 5864062014806) (by omega)
        have DL := imgSum_dig (aOf a b).f0 (aOf a b).f1 (aOf a b).f2
        have DM := imgSum_dig b.f0 b.f1 b.f2
        have OC := of_calls 5864062014806 A0 c0 A1 c1 a P0 p0 P1 p1 b (chg (aOf a b).f0 b.f0 b.f0.length) (chg (aOf a b).f1 b.f1 b.f1.length) w5 (Kd.C_below hA0 W5.out) ha0 (Kd.C_below hA1 W5.out) ha1 (Kd.C_below hP0 W5.out) hp0 (Kd.C_below hP1 W5.out) hp1 hLa hLb hr1 hr2
        have hx : aOf a b = noth ∨ aOf a b = a := by
          unfold aOf
          split
          · exact Or.inl rfl
          · exact Or.inr rfl
        have q := eq_dig DL (imgSum_dig [] [] ⟨#[]⟩)
        have hM : imgSum b.f0 b.f1 b.f2 = imgSum b.f0 b.f1 b.f2 := rfl
        by_cases hE : emptySum = imgSum (aOf a b).f0 (aOf a b).f1 (aOf a b).f2
        · have hxn : aOf a b = noth := by
            rcases hx with h | h
            · exact h
            · rw [h]
              rw [h] at hE
              exact (iNA hE).symm
          have hcase : imgSum c.f0 c.f1 c.f2 = imgSum (aOf a b).f0 (aOf a b).f1 (aOf a b).f2 ∧ noth = c ∨ imgSum c.f0 c.f1 c.f2 ≠ imgSum (aOf a b).f0 (aOf a b).f1 (aOf a b).f2 ∧ emptySum = imgSum (aOf a b).f0 (aOf a b).f1 (aOf a b).f2 ∧ noth = ⟨[], [], ⟨#[]⟩⟩ := by
            by_cases h : imgSum c.f0 c.f1 c.f2 = imgSum (aOf a b).f0 (aOf a b).f1 (aOf a b).f2
            · refine Or.inl ⟨h, ?_⟩
              rw [hxn] at h
              exact (iCN h).symm
            · exact Or.inr ⟨h, hE, rfl⟩
          have hd0 : delta_done.f 17592186044416 noth.f0 (chg (aOf a b).f0 b.f0 b.f0.length) = some (b.f0, 0) := by rw [hxn]; exact done_f [] b.f0 (by simp) hmb.1 (by omega)
          have hd1 : delta_done.f 17592186044416 noth.f1 (chg (aOf a b).f1 b.f1 b.f1.length) = some (b.f1, 0) := by rw [hxn]; exact done_f [] b.f1 (by simp) hmb.2 (by omega)
          obtain ⟨ri2, hi2, hir2⟩ := images_f b b hmb.1 hmb.2 (k := 5864062014806) (by omega)
          obtain rfl : ri2 = true := hir2.2 rfl
          have qq : decide (imgSum (aOf a b).f0 (aOf a b).f1 (aOf a b).f2 = imgSum [] [] ⟨#[]⟩) = true := decide_eq_true hE.symm
          rw [qq] at q
          clear qq iNA iCA iCN hx hxn hE hr1 hr2 apt hM hac
          rw [show imgSum [] [] ⟨#[]⟩ = emptySum from rfl] at q
          generalize imgSum (aOf a b).f0 (aOf a b).f1 (aOf a b).f2 = L at OC q DL hcase
          obtain ⟨M, hM⟩ : ∃ M, M = imgSum b.f0 b.f1 b.f2 := ⟨_, rfl⟩
          rw [← hM] at OC DM
          generalize chg (aOf a b).f0 b.f0 b.f0.length = r1 at OC hd0
          generalize chg (aOf a b).f1 b.f1 b.f1.length = r2 at OC hd1
          have hsum := hM.symm
          have OC := Aside0.mk OC
          have HQ := Aside0.mk hcase
          have HSU := Aside0.mk hsum
          have L32 := Aside0.mk DL.len
          have M32 := Aside0.mk DM.len
          clear hM hcase hsum
          go_wp2_with (first | (refine wpList_load_midg (by rfl) 24 (.tmp 3) rfl w.heap.size 0 rfl _ (loadAt_row BA5.out Try.underlying24 rfl (by kernel_rfl)) ?_) | (refine wpList_load_midg (by rfl) 24 (.tmp 4) rfl (w.heap.size + 1) 0 rfl _ (loadAt_row BB5.out Try.underlying24 rfl (by kernel_rfl)) ?_) | ((with_reducible refine OC.out.mono ?_); rintro e w6 ⟨U1, u1, U2, u2, rfl, hR1, hR2, hb⟩; have R16 := Aside0.mk hR1; have R26 := Aside0.mk hR2; have BA6 := Aside0.mk (BA5.out.below hb BA5.out.lt); have BB6 := Aside0.mk (BB5.out.below hb BB5.out.lt); have BC6 := Aside0.mk (BC5.out.below hb BC5.out.lt); have W6 := Aside0.mk (below_then W5.out W5.out.size hb); have D6 := Aside0.mk (Blk.new w6 32 Try.zeroCells32); clear hR1 hR2 hb) | (refine wpList_store_row rfl 32 (.tmp 7) (.tmp 31) rfl w6.heap.size _ rfl rfl 32 _ D6.out (by rw [dArr_size L32.out M32.out]; kernel_rfl) (by rw [dArr_size L32.out M32.out]; kernel_rfl) (dArr_one _ _ _ _ _ _ _ _ _) ?_; have BA7 := Aside0.mk ((BA6.out.alloc (.cells Try.zeroCells32 32)).setRow_far (k := w6.heap.size) (by have := BA6.out.lt; omega) (dArr L (.slice U1 r1.length u1) (.slice U2 r2.length u2) b.f2 M)); have BB7 := Aside0.mk ((BB6.out.alloc (.cells Try.zeroCells32 32)).setRow_far (k := w6.heap.size) (by have := BB6.out.lt; omega) (dArr L (.slice U1 r1.length u1) (.slice U2 r2.length u2) b.f2 M)); have BC7 := Aside0.mk ((BC6.out.alloc (.cells Try.zeroCells32 32)).setRow_far (k := w6.heap.size) (by have := BC6.out.lt; omega) (dArr L (.slice U1 r1.length u1) (.slice U2 r2.length u2) b.f2 M)); have E7 := Aside0.mk (D6.out.setRow_ (dArr L (.slice U1 r1.length u1) (.slice U2 r2.length u2) b.f2 M)); have R17 := Aside0.mk (R_setRowT (Kd.R_alloc R16.out (.cells Try.zeroCells32 32)) D6.out (by decide) (dArr L (.slice U1 r1.length u1) (.slice U2 r2.length u2) b.f2 M)); have R27 := Aside0.mk (R_setRowT (Kd.R_alloc R26.out (.cells Try.zeroCells32 32)) D6.out (by decide) (dArr L (.slice U1 r1.length u1) (.slice U2 r2.length u2) b.f2 M)); have W7 := Aside0.mk (below_setRow' (W6.out.alloc W6.out.size (.cells Try.zeroCells32 32)) W6.out.size (dArr L (.slice U1 r1.length u1) (.slice U2 r2.length u2) b.f2 M)); generalize (w6.alloc (.cells Try.zeroCells32 32)).setRow w6.heap.size (dArr L (.slice U1 r1.length u1) (.slice U2 r2.length u2) b.f2 M) = w7 at BA7 BB7 BC7 E7 R17 R27 W7 ⊢; generalize w6.heap.size = g at E7 ⊢; clear D6) | (refine wpList_load_midg (by rfl) 24 (.tmp 5) rfl (w.heap.size + 1 + 1) 0 rfl _ (loadAt_row BC7.out Try.underlying24 rfl (by kernel_rfl)) ?_) | (refine wpList_load_midg (by rfl) 32 (.tmp 7) rfl g 0 rfl _ (loadAt_row E7.out Try.underlying32 rfl (by rw [dArr_size L32.out M32.out]; kernel_rfl)) ?_) | ((with_reducible refine (apply_ok 17592186044416 b.f0 b.f1 noth L M DL DM Q0 q0 Q1 q1 c U1 u1 r1 U2 u2 r2 b.f2 _ (Kd.C_below hQ0 W7.out) hq0 (Kd.C_below hQ1 W7.out) hq1 hLc (Kd.R_C R17.out) (Kd.R_cap R17.out) (Kd.R_C R27.out) (Kd.R_cap R27.out) HQ.out hd0 hd1 HSU.out hLb).mono ?_); rintro e w8 ⟨Y0, d0, Y1, d1, rfl, k0, m0, k1, m1, hb⟩; have BB8 := Aside0.mk (BB7.out.below hb BB7.out.lt); have E8 := Aside0.mk (E7.out.below hb E7.out.lt); have W8 := Aside0.mk (below_then W7.out W7.out.size hb); clear hb))
          have k0 := Kd.C_below k0 ((Below.refl w8.heap.size w8).alloc (Nat.le_refl _) (.cells #[.slice Y0 b.f0.length d0, .slice Y1 b.f1.length d1, .string b.f2] 24))
          have k1 := Kd.C_below k1 ((Below.refl w8.heap.size w8).alloc (Nat.le_refl _) (.cells #[.slice Y0 b.f0.length d0, .slice Y1 b.f1.length d1, .string b.f2] 24))
          have BG9 := Aside0.mk (Blk.new w8 24 #[.slice Y0 b.f0.length d0, .slice Y1 b.f1.length d1, .string b.f2]).drew
          have BB9 := Aside0.mk (BB8.out.alloc (.cells #[.slice Y0 b.f0.length d0, .slice Y1 b.f1.length d1, .string b.f2] 24)).drew
          have E9 := Aside0.mk (E8.out.alloc (.cells #[.slice Y0 b.f0.length d0, .slice Y1 b.f1.length d1, .string b.f2] 24)).drew
          have W9 := Aside0.mk (below_drew (W8.out.alloc W8.out.size (.cells #[.slice Y0 b.f0.length d0, .slice Y1 b.f1.length d1, .string b.f2] 24)))
          have BG9 : Aside0 (Blk (w8.alloc (.cells #[.slice Y0 b.f0.length d0, .slice Y1 b.f1.length d1, .string b.f2] 24)).drew w8.heap.size 24 #[.slice Y0 b.f0.length d0, .slice Y1 b.f1.length d1, .string b.f2]) := BG9
          generalize w8.alloc (.cells #[.slice Y0 b.f0.length d0, .slice Y1 b.f1.length d1, .string b.f2] 24) = wg at BG9 BB9 E9 W9 k0 k1 ⊢
          generalize w8.heap.size = g8 at BG9 ⊢
          have k0 : Kd.C Kd.string wg.drew Y0 b.f0.length b.f0 := Kd.C_below k0 (below_drew (Below.refl _ wg))
          have k1 : Kd.C Kd.string wg.drew Y1 b.f1.length b.f1 := Kd.C_below k1 (below_drew (Below.refl _ wg))
          have k0 := Aside0.mk k0
          have k1 := Aside0.mk k1
          have m0 := Aside0.mk m0
          have m1 := Aside0.mk m1
          clear BA5 BC5 BB5 BA6 BC6 BB6 BA7 BB7 BC7 BB8 E7 E8 W5 W6 W7 W8 R16 R26 R17 R27 OC HQ
          refine start_ (n := 4) (S := fun w' => Blk w' g 32 (dArr L (.slice U1 r1.length u1) (.slice U2 r2.length u2) b.f2 M)) (ds := []) #[false, false, false, false] (by kernel_rfl) rfl rfl (E9.out) (fun hHeld => ?_)
          refine pure_ (i := 0) (N := some 38) (v := ?_) (a' := ?_) #[true, false, false, false] rfl rfl (by kernel_rfl) (fun _ _ _ h => h) (Or.inl ⟨by rfl, ?_⟩) ?_ ?_
          rotate_left
          · intro w'
            go_simp
            with_reducible rfl
          rotate_left
          · simp only [Act.put, List.setIfInBounds_toArray, List.set_cons_zero, List.set_cons_succ, i64_w, i32_w]
            rfl
          refine take_ (i := 1) (N := some 39) (v := ?_) (a' := ?_) #[true, true, false, false] rfl rfl (by kernel_rfl) (fun _ _ _ h => h) (Or.inl ⟨by rfl, ?_⟩) hHeld ?_ ?_
          rotate_left
          · intro w' s0
            refine mid_loads 29 (.tmp 38) ?_ g 0 ?_ (dArr_range w' _ L M L32.out M32.out _ _ b.f2 s0).1 Try.underlying29 ?_ ?_
            · rfl
            · rfl
            · rfl
            · rw [nums_length, L32.out]; kernel_rfl
          rotate_left
          · simp only [Act.put, List.setIfInBounds_toArray, List.set_cons_zero, List.set_cons_succ, i64_w, i32_w]
            rfl
          refine one_ (i := 2) (N := some 40) #[true, true, true, false] rfl rfl (by kernel_rfl) (by decide) (fun K hK => ?_)
          refine goes_ Try.func16 (by kernel_rfl) rfl #[] (by rfl) rfl rfl (by simp only [List.map_toArray, List.map_nil]) ?_
          with_reducible refine (rempty_calls _).mono ?_
          rintro e w10 ⟨rfl, hb⟩
          refine ⟨_, rfl, ?_⟩
          have BG10 := Aside0.mk (BG9.out.below hb BG9.out.lt)
          have BB10 := Aside0.mk (BB9.out.below hb BB9.out.lt)
          have E10 := Aside0.mk (E9.out.below hb E9.out.lt)
          have W10 := Aside0.mk (below_then W9.out W9.out.size hb)
          have k0 := Aside0.mk (Kd.C_below k0.out hb)
          have k1 := Aside0.mk (Kd.C_below k1.out hb)
          clear hb
          refine hK.out _ _ (E10.out) (fun hHeld => ?_)
          clear hK K
          refine norm_ (a' := ?_) ?_ ?_
          rotate_left
          · show Act.put _ (some 40) _ = _
            simp only [Act.put, List.setIfInBounds_toArray, List.set_cons_zero, List.set_cons_succ, i64_w, i32_w]
            rfl
          refine pure_ (i := 3) (N := some 41) (v := ?_) (a' := ?_) #[true, true, true, true] rfl rfl (by kernel_rfl) (fun _ _ _ h => h) (Or.inl ⟨by rfl, ?_⟩) ?_ ?_
          rotate_left
          · intro w'
            go_simp
            with_reducible rfl
          rotate_left
          · simp only [Act.put, List.setIfInBounds_toArray, List.set_cons_zero, List.set_cons_succ, i64_w, i32_w]
            rfl
          refine done_ (by kernel_rfl) ?_

          clear hHeld
          go_wp2_with (first | ((with_reducible refine (fixed_calls _).mono ?_); rintro e wf ⟨rfl, hb⟩; have BG11 := Aside0.mk (BG10.out.below hb BG10.out.lt); have BB11 := Aside0.mk (BB10.out.below hb BB10.out.lt); have W11 := Aside0.mk (below_then W10.out W10.out.size hb); have k0 := Aside0.mk (Kd.C_below k0.out hb); have k1 := Aside0.mk (Kd.C_below k1.out hb); clear hb) | (refine wpList_load_midg (by rfl) 24 (.tmp 8) rfl g8 0 rfl _ (loadAt_row BG11.out Try.underlying24 rfl (by kernel_rfl)) ?_) | (refine wpList_load_midg (by rfl) 24 (.tmp 4) rfl (w.heap.size + 1) 0 rfl _ (loadAt_row BB11.out Try.underlying24 rfl (by kernel_rfl)) ?_))
          refine (hibernacleref35_Images.calls 5864062014806 Y0 d0 b.f0 Y1 d1 b.f1 b.f2 P0 p0 b.f0 P1 p1 b.f1 b.f2 true wf k0.out m0.out k1.out m1.out (Kd.C_below hP0 W11.out) hp0 (Kd.C_below hP1 W11.out) hp1 hi2).mono ?_
          rintro e wz ⟨rfl, hb⟩
          have WZ := below_then W11.out W11.out.size hb
          clear hb
          go_wp2_with fail
          go_ret
          exact ⟨rfl, WZ⟩
        · have hne : imgSum c.f0 c.f1 c.f2 ≠ imgSum (aOf a b).f0 (aOf a b).f1 (aOf a b).f2 := by
            intro h
            rcases hx with h2 | h2
            · rw [h2] at hE
              exact hE rfl
            · rw [h2] at h
              exact hac (iCA h).symm
          have qq : decide (imgSum (aOf a b).f0 (aOf a b).f1 (aOf a b).f2 = imgSum [] [] ⟨#[]⟩) = false := decide_eq_false (fun h => hE h.symm)
          rw [qq] at q
          clear qq iNA iCA iCN hx hr1 hr2 apt hM hac
          rw [show imgSum [] [] ⟨#[]⟩ = emptySum from rfl] at q
          generalize imgSum (aOf a b).f0 (aOf a b).f1 (aOf a b).f2 = L at OC q DL hne hE
          generalize imgSum b.f0 b.f1 b.f2 = M at OC DM
          generalize chg (aOf a b).f0 b.f0 b.f0.length = r1 at OC
          generalize chg (aOf a b).f1 b.f1 b.f1.length = r2 at OC
          have OC := Aside0.mk OC
          have HNE := Aside0.mk hne
          have HE := Aside0.mk hE
          have L32 := Aside0.mk DL.len
          have M32 := Aside0.mk DM.len
          clear hne hE
          go_wp2_with (first | (refine wpList_load_midg (by rfl) 24 (.tmp 3) rfl w.heap.size 0 rfl _ (loadAt_row BA5.out Try.underlying24 rfl (by kernel_rfl)) ?_) | (refine wpList_load_midg (by rfl) 24 (.tmp 4) rfl (w.heap.size + 1) 0 rfl _ (loadAt_row BB5.out Try.underlying24 rfl (by kernel_rfl)) ?_) | ((with_reducible refine OC.out.mono ?_); rintro e w6 ⟨U1, u1, U2, u2, rfl, hR1, hR2, hb⟩; have R16 := Aside0.mk hR1; have R26 := Aside0.mk hR2; have BA6 := Aside0.mk (BA5.out.below hb BA5.out.lt); have BB6 := Aside0.mk (BB5.out.below hb BB5.out.lt); have BC6 := Aside0.mk (BC5.out.below hb BC5.out.lt); have W6 := Aside0.mk (below_then W5.out W5.out.size hb); have D6 := Aside0.mk (Blk.new w6 32 Try.zeroCells32); clear hR1 hR2 hb) | (refine wpList_store_row rfl 32 (.tmp 7) (.tmp 31) rfl w6.heap.size _ rfl rfl 32 _ D6.out (by rw [dArr_size L32.out M32.out]; kernel_rfl) (by rw [dArr_size L32.out M32.out]; kernel_rfl) (dArr_one _ _ _ _ _ _ _ _ _) ?_; have BA7 := Aside0.mk ((BA6.out.alloc (.cells Try.zeroCells32 32)).setRow_far (k := w6.heap.size) (by have := BA6.out.lt; omega) (dArr L (.slice U1 r1.length u1) (.slice U2 r2.length u2) b.f2 M)); have BB7 := Aside0.mk ((BB6.out.alloc (.cells Try.zeroCells32 32)).setRow_far (k := w6.heap.size) (by have := BB6.out.lt; omega) (dArr L (.slice U1 r1.length u1) (.slice U2 r2.length u2) b.f2 M)); have BC7 := Aside0.mk ((BC6.out.alloc (.cells Try.zeroCells32 32)).setRow_far (k := w6.heap.size) (by have := BC6.out.lt; omega) (dArr L (.slice U1 r1.length u1) (.slice U2 r2.length u2) b.f2 M)); have E7 := Aside0.mk (D6.out.setRow_ (dArr L (.slice U1 r1.length u1) (.slice U2 r2.length u2) b.f2 M)); have R17 := Aside0.mk (R_setRowT (Kd.R_alloc R16.out (.cells Try.zeroCells32 32)) D6.out (by decide) (dArr L (.slice U1 r1.length u1) (.slice U2 r2.length u2) b.f2 M)); have R27 := Aside0.mk (R_setRowT (Kd.R_alloc R26.out (.cells Try.zeroCells32 32)) D6.out (by decide) (dArr L (.slice U1 r1.length u1) (.slice U2 r2.length u2) b.f2 M)); have W7 := Aside0.mk (below_setRow' (W6.out.alloc W6.out.size (.cells Try.zeroCells32 32)) W6.out.size (dArr L (.slice U1 r1.length u1) (.slice U2 r2.length u2) b.f2 M)); generalize (w6.alloc (.cells Try.zeroCells32 32)).setRow w6.heap.size (dArr L (.slice U1 r1.length u1) (.slice U2 r2.length u2) b.f2 M) = w7 at BA7 BB7 BC7 E7 R17 R27 W7 ⊢; generalize w6.heap.size = g at E7 ⊢; clear D6) | (refine wpList_load_midg (by rfl) 24 (.tmp 5) rfl (w.heap.size + 1 + 1) 0 rfl _ (loadAt_row BC7.out Try.underlying24 rfl (by kernel_rfl)) ?_) | (refine wpList_load_midg (by rfl) 32 (.tmp 7) rfl g 0 rfl _ (loadAt_row E7.out Try.underlying32 rfl (by rw [dArr_size L32.out M32.out]; kernel_rfl)) ?_) | ((with_reducible refine (apply_diff L M DL DM Q0 q0 Q1 q1 c U1 u1 r1 U2 u2 r2 b.f2 _ (Kd.C_below hQ0 W7.out) hq0 (Kd.C_below hQ1 W7.out) hq1 hLc HNE.out HE.out).mono ?_); rintro e w8 ⟨rfl, hb⟩; have BB8 := Aside0.mk (BB7.out.below hb BB7.out.lt); have E8 := Aside0.mk (E7.out.below hb E7.out.lt); have W8 := Aside0.mk (below_then W7.out W7.out.size hb); clear hb))
          have BG9 := Aside0.mk (Blk.new w8 24 #[.slice none 0 0, .slice none 0 0, .string ⟨#[]⟩]).drew
          have BB9 := Aside0.mk (BB8.out.alloc (.cells #[.slice none 0 0, .slice none 0 0, .string ⟨#[]⟩] 24)).drew
          have E9 := Aside0.mk (E8.out.alloc (.cells #[.slice none 0 0, .slice none 0 0, .string ⟨#[]⟩] 24)).drew
          have W9 := Aside0.mk (below_drew (W8.out.alloc W8.out.size (.cells #[.slice none 0 0, .slice none 0 0, .string ⟨#[]⟩] 24)))
          have BG9 : Aside0 (Blk (w8.alloc (.cells #[.slice none 0 0, .slice none 0 0, .string ⟨#[]⟩] 24)).drew w8.heap.size 24 #[.slice none 0 0, .slice none 0 0, .string ⟨#[]⟩]) := BG9
          generalize w8.alloc (.cells #[.slice none 0 0, .slice none 0 0, .string ⟨#[]⟩] 24) = wg at BG9 BB9 E9 W9 ⊢
          generalize w8.heap.size = g8 at BG9 ⊢
          clear BA5 BC5 BB5 BA6 BC6 BB6 BA7 BB7 BC7 BB8 E7 E8 W5 W6 W7 W8 R16 R26 R17 R27 OC HNE HE
          refine start_ (n := 4) (S := fun w' => Blk w' g 32 (dArr L (.slice U1 r1.length u1) (.slice U2 r2.length u2) b.f2 M)) (ds := []) #[false, false, false, false] (by kernel_rfl) rfl rfl (E9.out) (fun hHeld => ?_)
          refine pure_ (i := 0) (N := some 38) (v := ?_) (a' := ?_) #[true, false, false, false] rfl rfl (by kernel_rfl) (fun _ _ _ h => h) (Or.inl ⟨by rfl, ?_⟩) ?_ ?_
          rotate_left
          · intro w'
            go_simp
            with_reducible rfl
          rotate_left
          · simp only [Act.put, List.setIfInBounds_toArray, List.set_cons_zero, List.set_cons_succ, i64_w, i32_w]
            rfl
          refine take_ (i := 1) (N := some 39) (v := ?_) (a' := ?_) #[true, true, false, false] rfl rfl (by kernel_rfl) (fun _ _ _ h => h) (Or.inl ⟨by rfl, ?_⟩) hHeld ?_ ?_
          rotate_left
          · intro w' s0
            refine mid_loads 29 (.tmp 38) ?_ g 0 ?_ (dArr_range w' _ L M L32.out M32.out _ _ b.f2 s0).1 Try.underlying29 ?_ ?_
            · rfl
            · rfl
            · rfl
            · rw [nums_length, L32.out]; kernel_rfl
          rotate_left
          · simp only [Act.put, List.setIfInBounds_toArray, List.set_cons_zero, List.set_cons_succ, i64_w, i32_w]
            rfl
          refine one_ (i := 2) (N := some 40) #[true, true, true, false] rfl rfl (by kernel_rfl) (by decide) (fun K hK => ?_)
          refine goes_ Try.func16 (by kernel_rfl) rfl #[] (by rfl) rfl rfl (by simp only [List.map_toArray, List.map_nil]) ?_
          with_reducible refine (rempty_calls _).mono ?_
          rintro e w10 ⟨rfl, hb⟩
          refine ⟨_, rfl, ?_⟩
          have BG10 := Aside0.mk (BG9.out.below hb BG9.out.lt)
          have BB10 := Aside0.mk (BB9.out.below hb BB9.out.lt)
          have E10 := Aside0.mk (E9.out.below hb E9.out.lt)
          have W10 := Aside0.mk (below_then W9.out W9.out.size hb)
          clear hb
          refine hK.out _ _ (E10.out) (fun hHeld => ?_)
          clear hK K
          refine norm_ (a' := ?_) ?_ ?_
          rotate_left
          · show Act.put _ (some 40) _ = _
            simp only [Act.put, List.setIfInBounds_toArray, List.set_cons_zero, List.set_cons_succ, i64_w, i32_w]
            rfl
          refine pure_ (i := 3) (N := some 41) (v := ?_) (a' := ?_) #[true, true, true, true] rfl rfl (by kernel_rfl) (fun _ _ _ h => h) (Or.inl ⟨by rfl, ?_⟩) ?_ ?_
          rotate_left
          · intro w'
            go_simp
            with_reducible rfl
          rotate_left
          · simp only [Act.put, List.setIfInBounds_toArray, List.set_cons_zero, List.set_cons_succ, i64_w, i32_w]
            rfl
          refine done_ (by kernel_rfl) ?_

          clear hHeld
          go_wp2_with ((with_reducible refine (fixed_calls _).mono ?_); rintro e wf ⟨rfl, hb⟩; have z0 : wf.cell? ⟨g8, 0, none⟩ = some (.slice none 0 0) := (BG10.out.below hb BG10.out.lt).cell 0; have z1 : wf.cell? ⟨g8, 1, none⟩ = some (.slice none 0 0) := (BG10.out.below hb BG10.out.lt).cell 1; have WF := Aside0.mk (below_then W10.out W10.out.size hb); clear hb)
          go_wp2_with fail
          go_ret
          exact ⟨rfl, WF.out⟩
end Go.Proofs.Ytoljjgabgdifbaa.H
