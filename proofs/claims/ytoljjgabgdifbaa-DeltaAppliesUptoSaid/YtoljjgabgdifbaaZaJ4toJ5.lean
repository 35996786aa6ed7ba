/- Layer 35 of the program: a copy of a delta; two deltas joined. Layer 35 of the program: two deltas joined. -/
import Derived.Lib.SliceRun
import Derived.Test.YtoljjgabgdifbaaZaJ2toJ6
import Derived.Test.YtoljjgabgdifbaaZaT2toT5

namespace Go.Proofs.Ytoljjgabgdifbaa.H
open Go.RowKit Go.Proofs.YtoljjgabgdifbaaW.PrintWords Go.Proofs.YtoljjgabgdifbaaW.PrintLast Go.Proofs.YtoljjgabgdifbaaW.PrintMore
set_option linter.unusedVariables false
set_option linter.unusedSimpArgs false

theorem R_fresh (w : World) : Kd.R k36 36 (w.alloc (.cells #[] 36)) w.heap.size (fun _ => True) (.slice (some ⟨w.heap.size, 0, none⟩) 0 0) [] :=
  ⟨fun _ _ => trivial, [], ⟨rfl, Or.inr ⟨w.heap.size, 0, #[], rfl, Nat.le_refl _, heap_alloc_new _ _, Nat.le_refl _, by decide, rfl, rfl⟩⟩, ⟨rfl, fun j p hj => by simp at hj⟩⟩
set_option maxRecDepth 100000 in
set_option maxHeartbeats 4000000 in
theorem clone_calls (A : Option Addr) (c : Nat) (l : List S36) (w : World) (hA : Kd.C k36 w A l.length l) (hc : l.length ≤ c) (hl : l.length ≤ 2000000) :
    Calls Try.prog 43 #[.slice A l.length c] w fun e w' => ∃ v, e = .returned v ∧ Kd.R k36 36 w' w.heap.size (fun _ => True) v l ∧ Below w.heap.size w w' := by
  have HA := Aside0.mk hA
  have RF := Aside0.mk (R_fresh w)
  have WF := Aside0.mk ((Below.refl w.heap.size w).alloc (Nat.le_refl _) (.cells #[] 36))
  cases A with
  | none =>
    obtain rfl : l = [] := by
      rcases Nat.eq_zero_or_pos l.length with h | h
      · exact List.eq_nil_of_length_eq_zero h
      · obtain ⟨ad, e, _⟩ := hA.2.2 h
        cases e
    clear hA
    have hq : ∀ w, (binOp .eql 30 (.slice none 0 c) (.slice none 0 0)).run Try.prog w = .ok (.bool true) w := fun w => Go.Lib.run_eql_slice_nil (P := Try.prog) w 30 36 none 0 c 0 0 Try.underlying30
    go_enter Try.func43, Try.ntmps43
    go_wp2_with fail
    go_ret
    exact ⟨_, rfl, Kd.R_nil _ _ _ _ _, Below.refl _ _⟩
  | some ad =>
    clear hA
    have hq : ∀ w, (binOp .eql 30 (.slice (some ad) l.length c) (.slice none 0 0)).run Try.prog w = .ok (.bool false) w := fun w => Go.Lib.run_eql_slice_nil (P := Try.prog) w 30 36 (some ad) l.length c 0 0 Try.underlying30
    go_enter Try.func43, Try.ntmps43
    go_wp2_with ((with_reducible refine gate_builtin (b := .append) (xs := #[.tmp 5, .tmp 6]) rfl ?_); at_builtin; refine Kd.R_append_rows k36 (Rr := k36.K _) (w0 := w) w.heap.size rfl (.tmp 5) (.tmp 6) 30 36 (.agg #[(.int .i64 0), (.string ⟨#[]⟩)]) 24 rfl Try.underlying30 info36 rfl (by decide) (by omega) _ [] l (some ad) l.length c (fun _ => True) (fun _ => False) rfl rfl RF.out (Kd.C_below HA.out WF.out) (fun x cs h => by rw [k36_open h]; exact k36_mkM _ _ _ x) (fun _ h => h.elim) (fun _ _ => trivial) WF.out WF.out.size ?aL ?_; (case aL => simp; omega); intro v1 w2 ho hb hg hat; have HO2 := Aside0.mk ho; have HW2 := Aside0.mk hb; clear ho hb hg hat)
    go_ret
    exact ⟨_, rfl, HO2.out, HW2.out⟩
theorem dArr_set (L M : List Int) (hL : L.length = 32) (v1 v2 u1 u2 : Value) (s : ByteArray) : ((dArr L v1 v2 s M).setIfInBounds 32 u1).setIfInBounds 33 u2 = dArr L u1 u2 s M := by
  have n0 : (nums .u8 L).length = 32 := by rw [nums_length]; exact hL
  apply Array.ext'
  unfold dArr
  simp only [List.setIfInBounds_toArray]
  rw [List.append_assoc, List.set_append_right _ _ (by omega), List.set_append_right _ _ (by omega), n0]
  simp
set_option maxRecDepth 100000 in
set_option maxHeartbeats 8000000 in
theorem copied_calls (L M : List Int) (hL : L.length = 32) (hM : M.length = 32) (A1 : Option Addr) (c1 : Nat) (r1 : List S36) (A2 : Option Addr) (c2 : Nat) (r2 : List S36) (s : ByteArray) (w : World)
    (h1 : Kd.C k36 w A1 r1.length r1) (k1 : r1.length ≤ c1) (h2 : Kd.C k36 w A2 r2.length r2) (k2 : r2.length ≤ c2) (m1 : r1.length ≤ 2000000) (m2 : r2.length ≤ 2000000) :
    Calls Try.prog 33 #[.agg (dArr L (.slice A1 r1.length c1) (.slice A2 r2.length c2) s M)] w fun e w' => ∃ V1 d1 V2 d2, e = .returned (.agg (dArr L (.slice V1 r1.length d1) (.slice V2 r2.length d2) s M)) ∧ Kd.R k36 36 w' w.heap.size (fun _ => True) (.slice V1 r1.length d1) r1 ∧ Kd.R k36 36 w' w.heap.size (fun _ => True) (.slice V2 r2.length d2) r2 ∧ Below w.heap.size w w' := by
  have BA := (Blk.new w 32 (dArr L (.slice A1 r1.length c1) (.slice A2 r2.length c2) s M)).alloc (.cells (dArr (outL [] 0) (.slice none 0 0) (.slice none 0 0) ⟨#[]⟩ (outL [] 0)) 32)
  have BZ := Blk.new (w.alloc (.cells (dArr L (.slice A1 r1.length c1) (.slice A2 r2.length c2) s M) 32)) 32 (dArr (outL [] 0) (.slice none 0 0) (.slice none 0 0) ⟨#[]⟩ (outL [] 0))
  have W0 := ((Below.refl w.heap.size w).alloc (Nat.le_refl _) (.cells (dArr L (.slice A1 r1.length c1) (.slice A2 r2.length c2) s M) 32)).alloc (by simp) (.cells (dArr (outL [] 0) (.slice none 0 0) (.slice none 0 0) ⟨#[]⟩ (outL [] 0)) 32)
  rw [sz] at BZ
  generalize hw0 : ((w.alloc (.cells (dArr L (.slice A1 r1.length c1) (.slice A2 r2.length c2) s M) 32)).alloc (.cells (dArr (outL [] 0) (.slice none 0 0) (.slice none 0 0) ⟨#[]⟩ (outL [] 0)) 32)) = w0 at BA BZ W0
  have HW0 := Aside0.mk hw0
  clear hw0
  obtain ⟨a32, a33, a34⟩ := dArr_mid L M hL (.slice A1 r1.length c1) (.slice A2 r2.length c2) s
  have E32 := Aside0.mk a32
  have E33 := Aside0.mk a33
  have q32 : w0.drew.cell? ⟨w.heap.size, 32, none⟩ = some (.slice A1 r1.length c1) := (BA.cell 32).trans a32
  have q33 : w0.drew.cell? ⟨w.heap.size, 33, none⟩ = some (.slice A2 r2.length c2) := (BA.cell 33).trans a33
  have B1 := Aside0.mk BA.drew
  have Z1 := Aside0.mk BZ.drew
  have W1 := Aside0.mk (below_drew W0)
  have hL := Aside0.mk hL
  have hM := Aside0.mk hM
  clear BA BZ W0 a32 a33 a34
  go_enter Try.func33, Try.ntmps33
  go_wp2_with (rw [show ((w.alloc (.cells (dArr L (.slice A1 r1.length c1) (.slice A2 r2.length c2) s M) 32)).alloc (.cells Try.zeroCells32 32)) = w0 from (by rw [z32]; exact HW0.out)])
  refine start_ (n := 10) (S := fun w' => w'.cell? ⟨w.heap.size, 32, none⟩ = some (.slice A1 r1.length c1) ∧ w'.cell? ⟨w.heap.size, 33, none⟩ = some (.slice A2 r2.length c2)) (ds := [7, 9]) #[false, false, false, false, false, false, false, false, false, false] (by kernel_rfl) rfl rfl ⟨q32, q33⟩ (fun hHeld => ?_)
  refine pure_ (i := 0) (N := some 3) (v := ?_) (a' := ?_) #[true, false, false, false, false, false, false, false, false, false] rfl rfl (by kernel_rfl) (fun _ _ _ h => h) (Or.inl ⟨by rfl, ?_⟩) ?_ ?_
  rotate_left
  · intro w'
    go_simp
    with_reducible rfl
  rotate_left
  · simp only [Act.put, List.setIfInBounds_toArray, List.set_cons_zero, List.set_cons_succ, i64_w, i32_w]
    rfl
  refine pure_ (i := 3) (N := some 6) (v := ?_) (a' := ?_) #[true, false, false, true, false, false, false, false, false, false] rfl rfl (by kernel_rfl) (fun _ _ _ h => h) (Or.inl ⟨by rfl, ?_⟩) ?_ ?_
  rotate_left
  · intro w'
    go_simp
    with_reducible rfl
  rotate_left
  · simp only [Act.put, List.setIfInBounds_toArray, List.set_cons_zero, List.set_cons_succ, i64_w, i32_w]
    rfl
  refine take_ (i := 1) (N := some 4) (v := ?_) (a' := ?_) #[true, true, false, true, false, false, false, false, false, false] rfl rfl (by kernel_rfl) (fun _ _ _ h => h) (Or.inl ⟨by rfl, ?_⟩) hHeld ?_ ?_
  rotate_left
  · rintro w' ⟨s0, s1⟩
    go_simp
    with_reducible rfl
  rotate_left
  · simp only [Act.put, List.setIfInBounds_toArray, List.set_cons_zero, List.set_cons_succ, i64_w, i32_w]
    rfl
  refine take_ (i := 4) (N := some 7) (v := ?_) (a' := ?_) #[true, true, false, true, true, false, false, false, false, false] rfl rfl (by kernel_rfl) (fun _ _ _ h => h) (Or.inl ⟨by rfl, ?_⟩) hHeld ?_ ?_
  rotate_left
  · rintro w' ⟨s0, s1⟩
    go_simp
    with_reducible rfl
  rotate_left
  · simp only [Act.put, List.setIfInBounds_toArray, List.set_cons_zero, List.set_cons_succ, i64_w, i32_w]
    rfl
  refine one_ (i := 2) (N := some 5) #[true, true, true, true, true, false, false, false, false, false] rfl rfl (by kernel_rfl) (by decide) (fun K hK => ?_)
  refine goes_ Try.func43 (by kernel_rfl) rfl #[.slice A1 r1.length c1] (by rfl) rfl rfl (by simp only [List.map_toArray, List.map_cons, List.map_nil]; rfl) ?_
  with_reducible refine (clone_calls A1 c1 r1 _ (Kd.C_below h1 W1.out) k1 m1).mono ?_
  rintro e w2 ⟨v1, rfl, hR, hb⟩
  refine ⟨_, rfl, ?_⟩
  obtain ⟨V1, d1, rfl⟩ := Kd.R_slice hR
  have B2 := Aside0.mk (B1.out.below hb B1.out.lt)
  have Z2 := Aside0.mk (Z1.out.below hb Z1.out.lt)
  have W2 := Aside0.mk (below_then W1.out W1.out.size hb)
  have R12 := Aside0.mk hR
  have p32 : w2.cell? ⟨w.heap.size, 32, none⟩ = some (.slice A1 r1.length c1) := (B2.out.cell 32).trans E32.out
  have p33 : w2.cell? ⟨w.heap.size, 33, none⟩ = some (.slice A2 r2.length c2) := (B2.out.cell 33).trans E33.out
  clear hb hR
  refine hK.out _ _ ⟨p32, p33⟩ (fun hHeld => ?_)
  clear hK K
  refine norm_ (a' := ?_) ?_ ?_
  rotate_left
  · show Act.put _ (some 5) _ = _
    simp only [Act.put, List.setIfInBounds_toArray, List.set_cons_zero, List.set_cons_succ, i64_w, i32_w]
    rfl
  refine pure_ (i := 6) (N := some 9) (v := ?_) (a' := ?_) #[true, true, true, true, true, false, true, false, false, false] rfl rfl (by kernel_rfl) (fun _ _ _ h => h) (Or.inl ⟨by rfl, ?_⟩) ?_ ?_
  rotate_left
  · intro w'
    go_simp
    with_reducible rfl
  rotate_left
  · simp only [Act.put, List.setIfInBounds_toArray, List.set_cons_zero, List.set_cons_succ, i64_w, i32_w]
    rfl
  refine one_ (i := 5) (N := some 8) #[true, true, true, true, true, true, true, false, false, false] rfl rfl (by kernel_rfl) (by decide) (fun K hK => ?_)
  refine goes_ Try.func43 (by kernel_rfl) rfl #[.slice A2 r2.length c2] (by rfl) rfl rfl (by simp only [List.map_toArray, List.map_cons, List.map_nil]; rfl) ?_
  with_reducible refine (clone_calls A2 c2 r2 _ (Kd.C_below h2 W2.out) k2 m2).mono ?_
  rintro e w3 ⟨v2, rfl, hR, hb⟩
  refine ⟨_, rfl, ?_⟩
  obtain ⟨V2, d2, rfl⟩ := Kd.R_slice hR
  have B3 := B2.out.below hb B2.out.lt
  have Z3 := Aside0.mk (Z2.out.below hb Z2.out.lt)
  have W3 := Aside0.mk (below_then W2.out W2.out.size hb)
  have R13 := Aside0.mk (Kd.R_below R12.out hb)
  have R23 := Aside0.mk hR
  have c32 : w3.cell? ⟨w.heap.size, 32, none⟩ = some (.slice A1 r1.length c1) := (B3.cell 32).trans E32.out
  have f32 := B3.frozen 32
  have LT3 := Aside0.mk B1.out.lt
  have HL2 := Aside0.mk (show w.heap.size < w2.heap.size from B2.out.lt)
  have B4 := B3.set_ 32 (.slice V1 r1.length d1)
  have c33 : (w3.setCell ⟨w.heap.size, 32, none⟩ (.slice V1 r1.length d1)).cell? ⟨w.heap.size, 33, none⟩ = some (.slice A2 r2.length c2) := (World.cell?_setCell_other w3 _ _ _ (by simp)).trans ((B3.cell 33).trans E33.out)
  have f33 := B4.frozen 33
  have B5 := Aside0.mk (B4.set_ 33 (.slice V2 r2.length d2))
  have Z5 := Aside0.mk ((Z3.out.far (p := ⟨w.heap.size, 32, none⟩) (by simp) (.slice V1 r1.length d1)).far (p := ⟨w.heap.size, 33, none⟩) (by simp) (.slice V2 r2.length d2))
  have W5 := Aside0.mk ((W3.out.setCell (p := ⟨w.heap.size, 32, none⟩) (Nat.le_refl _) (.slice V1 r1.length d1)).setCell (p := ⟨w.heap.size, 33, none⟩) (Nat.le_refl _) (.slice V2 r2.length d2))
  clear hb hR
  refine hK.out _ _ ⟨c32, ((B3.cell 33).trans E33.out)⟩ (fun hHeld => ?_)
  clear hK K
  refine norm_ (a' := ?_) ?_ ?_
  rotate_left
  · show Act.put _ (some 8) _ = _
    simp only [Act.put, List.setIfInBounds_toArray, List.set_cons_zero, List.set_cons_succ, i64_w, i32_w]
    rfl
  refine last_ (i := 7) (N := none) #[true, true, true, true, true, true, true, true, false, false] rfl rfl (by kernel_rfl) (by decide) (fun K hK => ?_)
  refine skip_ (w1 := w3.setCell ⟨w.heap.size, 32, none⟩ (.slice V1 r1.length d1)) (by rfl) rfl ?_ ?_
  · go_simp
  refine hK.out _ _ ?_
  clear hK K
  refine pure_ (i := 8) (N := some 10) (v := ?_) (a' := ?_) #[true, true, true, true, true, true, true, true, true, false] rfl rfl (by kernel_rfl) (fun _ _ _ h => h) (Or.inl ⟨by rfl, ?_⟩) ?_ ?_
  rotate_left
  · intro w'
    go_simp
    with_reducible rfl
  rotate_left
  · simp only [Act.put, List.setIfInBounds_toArray, List.set_cons_zero, List.set_cons_succ, i64_w, i32_w]
    rfl
  refine last_ (i := 9) (N := none) #[true, true, true, true, true, true, true, true, true, true] rfl rfl (by kernel_rfl) (by decide) (fun K hK => ?_)
  refine skip_ (w1 := (w3.setCell ⟨w.heap.size, 32, none⟩ (.slice V1 r1.length d1)).setCell ⟨w.heap.size, 33, none⟩ (.slice V2 r2.length d2)) (by rfl) rfl ?_ ?_
  · go_simp
  refine hK.out _ _ ?_
  clear hK K
  refine done_ (by kernel_rfl) ?_

  clear hHeld
  have B5' := B5.out
  rw [dArr_set L M hL.out] at B5'
  have B5 := Aside0.mk B5'
  have R15 := Kd.R_step (Kd.R_bound R13.out) (w1 := (w3.setCell ⟨w.heap.size, 32, none⟩ (.slice V1 r1.length d1)).setCell ⟨w.heap.size, 33, none⟩ (.slice V2 r2.length d2)) (fun k hk _ => ((Below.heap_setCell _ _ _ k (by have := hk.2.1; have := LT3.out; show k ≠ w.heap.size; have h0 : w.heap.size < w0.drew.heap.size := LT3.out; omega)).trans (Below.heap_setCell _ _ _ k (by have := hk.2.1; have h0 : w.heap.size < w0.drew.heap.size := LT3.out; show k ≠ w.heap.size; omega))))
  have R25 := Kd.R_step (Kd.R_bound R23.out) (w1 := (w3.setCell ⟨w.heap.size, 32, none⟩ (.slice V1 r1.length d1)).setCell ⟨w.heap.size, 33, none⟩ (.slice V2 r2.length d2)) (fun k hk _ => ((Below.heap_setCell _ _ _ k (by have := hk.2.1; have h0 := HL2.out; show k ≠ w.heap.size; omega)).trans (Below.heap_setCell _ _ _ k (by have := hk.2.1; have h0 := HL2.out; show k ≠ w.heap.size; omega))))
  have R15 := Aside0.mk (Kd.R_mono R15 (fun k hk => hk.1))
  have R25 := Aside0.mk (Kd.R_mono R25 (fun k hk => hk.1))
  generalize (w3.setCell ⟨w.heap.size, 32, none⟩ (.slice V1 r1.length d1)).setCell ⟨w.heap.size, 33, none⟩ (.slice V2 r2.length d2) = w5 at B5 Z5 W5 R15 R25 ⊢
  have DZ : Aside0 ((dArr L (.slice V1 r1.length d1) (.slice V2 r2.length d2) s M).size = 67) := ⟨dArr_size hL.out hM.out _ _ _⟩
  clear c32 f32 c33 f33 p32 p33 q32 q33
  go_wp2_with (first | (refine wpList_load_row rfl 32 (.tmp 1) rfl w.heap.size rfl 32 _ (0, 0) _ B5.out Try.underlying32 rfl (by rw [DZ.out]; kernel_rfl) ?_) | (refine wpList_store_row rfl 32 (.tmp 2) (.tmp 11) rfl (w.heap.size + 1) _ rfl rfl 32 _ Z5.out (by rw [DZ.out]; kernel_rfl) (by rw [DZ.out]; kernel_rfl) (dArr_one _ _ _ _ _ _ _ _ _) ?_))
  have HLZ : w.heap.size + 1 < w0.drew.heap.size := Z1.out.lt
  have HL3 : w.heap.size + 1 < w2.heap.size := Z2.out.lt
  exact bodyPost_ret (results_cell_row (p := 2) (ty := 32) rfl _ _ (w.heap.size + 1) 32 _ (0, 0) _ rfl (Z5.out.setRow_ _) Try.underlying32 rfl (by rw [DZ.out]; kernel_rfl)) rfl ⟨V1, d1, V2, d2, rfl, Kd.R_lower (R_setRow R15.out (by omega) _) (by have := W1.out.size; omega), Kd.R_lower (R_setRow R25.out (by omega) _) W2.out.size, below_setRow' W5.out (by omega) _⟩

end Go.Proofs.Ytoljjgabgdifbaa.H


namespace Go.Proofs.Ytoljjgabgdifbaa.H
open Go.RowKit Go.Proofs.YtoljjgabgdifbaaW.PrintWords Go.Proofs.YtoljjgabgdifbaaW.PrintLast Go.Proofs.YtoljjgabgdifbaaW.PrintMore
set_option linter.unusedVariables false
set_option linter.unusedSimpArgs false

set_option maxRecDepth 100000 in
set_option maxHeartbeats 8000000 in
theorem join_empty (L M P Q : List Int) (hL : Dig L) (hM : Dig M) (hP : Dig P) (hQ : Dig Q) (U1 : Option Addr) (u1 : Nat) (r1 : List S36) (U2 : Option Addr) (u2 : Nat) (r2 : List S36) (s : ByteArray) (V1 : Option Addr) (v1 : Nat) (q1 : List S36) (V2 : Option Addr) (v2 : Nat) (q2 : List S36) (z : ByteArray) (w : World)
    (hU1 : Kd.C k36 w U1 r1.length r1) (hu1 : r1.length ≤ u1) (hU2 : Kd.C k36 w U2 r2.length r2) (hu2 : r2.length ≤ u2) (hV1 : Kd.C k36 w V1 q1.length q1) (hv1 : q1.length ≤ v1) (hV2 : Kd.C k36 w V2 q2.length q2) (hv2 : q2.length ≤ v2)
    (m1 : r1.length ≤ 500000) (m2 : r2.length ≤ 500000) (n1 : q1.length ≤ 500000) (n2 : q2.length ≤ 500000)
    (hc : P = emptySum) :
    Calls Try.prog 19 #[.agg (dArr L (.slice U1 r1.length u1) (.slice U2 r2.length u2) s M), .agg (dArr P (.slice V1 q1.length v1) (.slice V2 q2.length v2) z Q)] w fun e w' => ∃ T1 t1 T2 t2, e = .returned (.tuple #[.agg (dArr P (.slice T1 q1.length t1) (.slice T2 q2.length t2) z Q), .int .i64 0]) ∧ Kd.R k36 36 w' w.heap.size (fun _ => True) (.slice T1 q1.length t1) q1 ∧ Kd.R k36 36 w' w.heap.size (fun _ => True) (.slice T2 q2.length t2) q2 ∧ Below w.heap.size w w' := by
  have BX := ((Blk.new w 32 (dArr L (.slice U1 r1.length u1) (.slice U2 r2.length u2) s M)).alloc (.cells (dArr P (.slice V1 q1.length v1) (.slice V2 q2.length v2) z Q) 32)).alloc (.cells (dArr (outL [] 0) (.slice none 0 0) (.slice none 0 0) ⟨#[]⟩ (outL [] 0)) 32)
  have BY := (Blk.new (w.alloc (.cells (dArr L (.slice U1 r1.length u1) (.slice U2 r2.length u2) s M) 32)) 32 (dArr P (.slice V1 q1.length v1) (.slice V2 q2.length v2) z Q)).alloc (.cells (dArr (outL [] 0) (.slice none 0 0) (.slice none 0 0) ⟨#[]⟩ (outL [] 0)) 32)
  have BR := Blk.new ((w.alloc (.cells (dArr L (.slice U1 r1.length u1) (.slice U2 r2.length u2) s M) 32)).alloc (.cells (dArr P (.slice V1 q1.length v1) (.slice V2 q2.length v2) z Q) 32)) 32 (dArr (outL [] 0) (.slice none 0 0) (.slice none 0 0) ⟨#[]⟩ (outL [] 0))
  have W0 := (((Below.refl w.heap.size w).alloc (Nat.le_refl _) (.cells (dArr L (.slice U1 r1.length u1) (.slice U2 r2.length u2) s M) 32)).alloc (by simp) (.cells (dArr P (.slice V1 q1.length v1) (.slice V2 q2.length v2) z Q) 32)).alloc (by simp; omega) (.cells (dArr (outL [] 0) (.slice none 0 0) (.slice none 0 0) ⟨#[]⟩ (outL [] 0)) 32)
  rw [sz] at BY
  rw [sz, sz] at BR
  generalize hw0 : (((w.alloc (.cells (dArr L (.slice U1 r1.length u1) (.slice U2 r2.length u2) s M) 32)).alloc (.cells (dArr P (.slice V1 q1.length v1) (.slice V2 q2.length v2) z Q) 32)).alloc (.cells (dArr (outL [] 0) (.slice none 0 0) (.slice none 0 0) ⟨#[]⟩ (outL [] 0)) 32)) = w0 at BX BY BR W0
  have HW0 := Aside0.mk hw0
  clear hw0
  have qe := eq_dig hP (imgSum_dig [] [] ⟨#[]⟩)
  rw [show imgSum [] [] ⟨#[]⟩ = emptySum from rfl] at qe
  have qm := eq_dig hP hM
  obtain ⟨E, hE⟩ : ∃ E, E = emptySum := ⟨_, rfl⟩
  have nothing_calls := fun W => nothing_calls W
  rw [← hE] at qe nothing_calls hc
  have l1 := Aside0.mk (run_loadAt_mid (P := Try.prog) w0 (w.heap.size + 1) 0 29 _ _ (dArr_range w0 _ P Q hP.len hQ.len _ _ z BY).1 Try.underlying29 rfl (by rw [nums_length, hP.len]; kernel_rfl))
  have l2 : ∀ W, Below w0.heap.size w0 W → (Instr.loadAt 29 (.pointer (some ⟨w.heap.size, 35, none⟩))).run Try.prog W = .ok (.agg (nums .u8 M).toArray) W := fun W hb => run_loadAt_mid (P := Try.prog) W w.heap.size 35 29 _ _ (dArr_range W _ L M hL.len hM.len _ _ s (BX.below hb BX.lt)).2 Try.underlying29 rfl (by rw [nums_length, hM.len]; kernel_rfl)
  have l2 := Aside0.mk l2
  have BX := Aside0.mk BX
  have BY := Aside0.mk BY
  have BR := Aside0.mk BR
  have W0 := Aside0.mk W0
  have SX : Aside0 ((dArr L (.slice U1 r1.length u1) (.slice U2 r2.length u2) s M).size = 67) := ⟨dArr_size hL.len hM.len _ _ _⟩
  have SYY : Aside0 ((dArr P (.slice V1 q1.length v1) (.slice V2 q2.length v2) z Q).size = 67) := ⟨dArr_size hP.len hQ.len _ _ _⟩
  obtain ⟨x32, x33, x34⟩ := dArr_mid L M hL.len (.slice U1 r1.length u1) (.slice U2 r2.length u2) s
  obtain ⟨y32, y33, y34⟩ := dArr_mid P Q hP.len (.slice V1 q1.length v1) (.slice V2 q2.length v2) z
  have X32 := Aside0.mk x32
  have X33 := Aside0.mk x33
  have Y32 := Aside0.mk y32
  have Y33 := Aside0.mk y33
  have Y34 := Aside0.mk y34
  have hL := Aside0.mk hL
  have hM := Aside0.mk hM
  have hP := Aside0.mk hP
  have hQ := Aside0.mk hQ
  clear x32 x33 x34 y32 y33 y34
  rw [decide_eq_true hc] at qe
  clear hc hE qm
  go_enter Try.func19, Try.ntmps19
  go_wp2_with (first | (rw [show (((w.alloc (.cells (dArr L (.slice U1 r1.length u1) (.slice U2 r2.length u2) s M) 32)).alloc (.cells (dArr P (.slice V1 q1.length v1) (.slice V2 q2.length v2) z Q) 32)).alloc (.cells Try.zeroCells32 32)) = w0 from (by rw [z32]; exact HW0.out)]) | (refine wpList_load_midg (by rfl) 29 (.tmp 6) rfl (w.heap.size + 1) 0 rfl _ l1.out ?_) | ((with_reducible refine (nothing_calls _).mono ?_); rintro e w2 ⟨rfl, hb⟩; have BX2 := Aside0.mk (BX.out.below hb BX.out.lt); have BY2 := Aside0.mk (BY.out.below hb BY.out.lt); have BR2 := Aside0.mk (BR.out.below hb BR.out.lt); have W2 := Aside0.mk (below_then W0.out W0.out.size hb); have BB := Aside0.mk hb; clear hb) | (refine wpList_load_midg (by rfl) 29 (.tmp 14) rfl w.heap.size 35 rfl _ (l2.out _ BB.out) ?_) | (refine wpList_load_row rfl 32 (.tmp 3) rfl (w.heap.size + 1) rfl 32 _ (0, 0) _ BY2.out Try.underlying32 rfl (by rw [SYY.out]; kernel_rfl) ?_) | ((with_reducible refine (copied_calls P Q hP.out.len hQ.out.len V1 v1 q1 V2 v2 q2 z _ (Kd.C_below hV1 W2.out) hv1 (Kd.C_below hV2 W2.out) hv2 (by omega) (by omega)).mono ?_); rintro e w3 ⟨T1, t1, T2, t2, rfl, hR1, hR2, hb⟩; have BR3 := Aside0.mk (BR2.out.below hb BR2.out.lt); have HL2 := Aside0.mk BR2.out.lt; have W3 := Aside0.mk (below_then W2.out W2.out.size hb); have R1 := Aside0.mk hR1; have R2 := Aside0.mk hR2; have SZ : Aside0 ((dArr P (.slice T1 q1.length t1) (.slice T2 q2.length t2) z Q).size = 67) := ⟨dArr_size hP.out.len hQ.out.len _ _ _⟩; clear hb hR1 hR2) | (refine wpList_store_row rfl 32 (.tmp 4) (.tmp 12) rfl (w.heap.size + 1 + 1) _ rfl rfl 32 _ BR3.out (by rw [SZ.out]; kernel_rfl) (by rw [SZ.out]; kernel_rfl) (dArr_one _ _ _ _ _ _ _ _ _) ?_))
  have LW : w.heap.size ≤ w2.heap.size := W2.out.size
  exact bodyPost_ret (results_row_tmp (p := 4) (u := 5) (ty := 32) rfl _ _ (w.heap.size + 1 + 1) 32 _ _ rfl (BR3.out.setRow_ _) Try.underlying32 rfl (by rw [SZ.out]; kernel_rfl)) rfl ⟨T1, t1, T2, t2, rfl, Kd.R_lower (R_setRow R1.out HL2.out _) LW, Kd.R_lower (R_setRow R2.out HL2.out _) LW, below_setRow' W3.out (by omega) _⟩
set_option maxRecDepth 100000 in
set_option maxHeartbeats 8000000 in
theorem join_both (L M P Q : List Int) (hL : Dig L) (hM : Dig M) (hP : Dig P) (hQ : Dig Q) (U1 : Option Addr) (u1 : Nat) (r1 : List S36) (U2 : Option Addr) (u2 : Nat) (r2 : List S36) (s : ByteArray) (V1 : Option Addr) (v1 : Nat) (q1 : List S36) (V2 : Option Addr) (v2 : Nat) (q2 : List S36) (z : ByteArray) (w : World)
    (hU1 : Kd.C k36 w U1 r1.length r1) (hu1 : r1.length ≤ u1) (hU2 : Kd.C k36 w U2 r2.length r2) (hu2 : r2.length ≤ u2) (hV1 : Kd.C k36 w V1 q1.length q1) (hv1 : q1.length ≤ v1) (hV2 : Kd.C k36 w V2 q2.length q2) (hv2 : q2.length ≤ v2)
    (m1 : r1.length ≤ 500000) (m2 : r2.length ≤ 500000) (n1 : q1.length ≤ 500000) (n2 : q2.length ≤ 500000)
    (hw1 : ∀ j : Nat, (Lit.int .i64 (rd_T36 (r1 ++ q1) (j : Int)).f0).wf = true) (hs1 : ∀ j : Nat, (rd_T36 (r1 ++ q1) (j : Int)).f1.size ≤ maxLen) (hw2 : ∀ j : Nat, (Lit.int .i64 (rd_T36 (r2 ++ q2) (j : Int)).f0).wf = true) (hs2 : ∀ j : Nat, (rd_T36 (r2 ++ q2) (j : Int)).f1.size ≤ maxLen)
    (hc : P ≠ emptySum) (hd : P = M) :
    Calls Try.prog 19 #[.agg (dArr L (.slice U1 r1.length u1) (.slice U2 r2.length u2) s M), .agg (dArr P (.slice V1 q1.length v1) (.slice V2 q2.length v2) z Q)] w fun e w' => ∃ T1 t1 T2 t2, e = .returned (.tuple #[.agg (dArr L (.slice T1 (bothL (r1 ++ q1)).length t1) (.slice T2 (bothL (r2 ++ q2)).length t2) z Q), .int .i64 0]) ∧ Kd.R k36 36 w' w.heap.size (fun _ => True) (.slice T1 (bothL (r1 ++ q1)).length t1) (bothL (r1 ++ q1)) ∧ Kd.R k36 36 w' w.heap.size (fun _ => True) (.slice T2 (bothL (r2 ++ q2)).length t2) (bothL (r2 ++ q2)) ∧ Below w.heap.size w w' := by
  have BX := ((Blk.new w 32 (dArr L (.slice U1 r1.length u1) (.slice U2 r2.length u2) s M)).alloc (.cells (dArr P (.slice V1 q1.length v1) (.slice V2 q2.length v2) z Q) 32)).alloc (.cells (dArr (outL [] 0) (.slice none 0 0) (.slice none 0 0) ⟨#[]⟩ (outL [] 0)) 32)
  have BY := (Blk.new (w.alloc (.cells (dArr L (.slice U1 r1.length u1) (.slice U2 r2.length u2) s M) 32)) 32 (dArr P (.slice V1 q1.length v1) (.slice V2 q2.length v2) z Q)).alloc (.cells (dArr (outL [] 0) (.slice none 0 0) (.slice none 0 0) ⟨#[]⟩ (outL [] 0)) 32)
  have BR := Blk.new ((w.alloc (.cells (dArr L (.slice U1 r1.length u1) (.slice U2 r2.length u2) s M) 32)).alloc (.cells (dArr P (.slice V1 q1.length v1) (.slice V2 q2.length v2) z Q) 32)) 32 (dArr (outL [] 0) (.slice none 0 0) (.slice none 0 0) ⟨#[]⟩ (outL [] 0))
  have W0 := (((Below.refl w.heap.size w).alloc (Nat.le_refl _) (.cells (dArr L (.slice U1 r1.length u1) (.slice U2 r2.length u2) s M) 32)).alloc (by simp) (.cells (dArr P (.slice V1 q1.length v1) (.slice V2 q2.length v2) z Q) 32)).alloc (by simp; omega) (.cells (dArr (outL [] 0) (.slice none 0 0) (.slice none 0 0) ⟨#[]⟩ (outL [] 0)) 32)
  rw [sz] at BY
  rw [sz, sz] at BR
  generalize hw0 : (((w.alloc (.cells (dArr L (.slice U1 r1.length u1) (.slice U2 r2.length u2) s M) 32)).alloc (.cells (dArr P (.slice V1 q1.length v1) (.slice V2 q2.length v2) z Q) 32)).alloc (.cells (dArr (outL [] 0) (.slice none 0 0) (.slice none 0 0) ⟨#[]⟩ (outL [] 0)) 32)) = w0 at BX BY BR W0
  have HW0 := Aside0.mk hw0
  clear hw0
  have qe := eq_dig hP (imgSum_dig [] [] ⟨#[]⟩)
  rw [show imgSum [] [] ⟨#[]⟩ = emptySum from rfl] at qe
  have qm := eq_dig hP hM
  obtain ⟨E, hE⟩ : ∃ E, E = emptySum := ⟨_, rfl⟩
  have nothing_calls := fun W => nothing_calls W
  rw [← hE] at qe nothing_calls hc
  have l1 := Aside0.mk (run_loadAt_mid (P := Try.prog) w0 (w.heap.size + 1) 0 29 _ _ (dArr_range w0 _ P Q hP.len hQ.len _ _ z BY).1 Try.underlying29 rfl (by rw [nums_length, hP.len]; kernel_rfl))
  have l2 : ∀ W, Below w0.heap.size w0 W → (Instr.loadAt 29 (.pointer (some ⟨w.heap.size, 35, none⟩))).run Try.prog W = .ok (.agg (nums .u8 M).toArray) W := fun W hb => run_loadAt_mid (P := Try.prog) W w.heap.size 35 29 _ _ (dArr_range W _ L M hL.len hM.len _ _ s (BX.below hb BX.lt)).2 Try.underlying29 rfl (by rw [nums_length, hM.len]; kernel_rfl)
  have l2 := Aside0.mk l2
  have BX := Aside0.mk BX
  have BY := Aside0.mk BY
  have BR := Aside0.mk BR
  have W0 := Aside0.mk W0
  have SX : Aside0 ((dArr L (.slice U1 r1.length u1) (.slice U2 r2.length u2) s M).size = 67) := ⟨dArr_size hL.len hM.len _ _ _⟩
  have SYY : Aside0 ((dArr P (.slice V1 q1.length v1) (.slice V2 q2.length v2) z Q).size = 67) := ⟨dArr_size hP.len hQ.len _ _ _⟩
  obtain ⟨x32, x33, x34⟩ := dArr_mid L M hL.len (.slice U1 r1.length u1) (.slice U2 r2.length u2) s
  obtain ⟨y32, y33, y34⟩ := dArr_mid P Q hP.len (.slice V1 q1.length v1) (.slice V2 q2.length v2) z
  have X32 := Aside0.mk x32
  have X33 := Aside0.mk x33
  have Y32 := Aside0.mk y32
  have Y33 := Aside0.mk y33
  have Y34 := Aside0.mk y34
  have hL := Aside0.mk hL
  have hM := Aside0.mk hM
  have hP := Aside0.mk hP
  have hQ := Aside0.mk hQ
  clear x32 x33 x34 y32 y33 y34
  rw [decide_eq_false hc] at qe
  rw [decide_eq_true hd] at qm
  clear hc hE hd
  go_enter Try.func19, Try.ntmps19
  go_wp2_with (first | (rw [show (((w.alloc (.cells (dArr L (.slice U1 r1.length u1) (.slice U2 r2.length u2) s M) 32)).alloc (.cells (dArr P (.slice V1 q1.length v1) (.slice V2 q2.length v2) z Q) 32)).alloc (.cells Try.zeroCells32 32)) = w0 from (by rw [z32]; exact HW0.out)]) | (refine wpList_load_midg (by rfl) 29 (.tmp 6) rfl (w.heap.size + 1) 0 rfl _ l1.out ?_) | ((with_reducible refine (nothing_calls _).mono ?_); rintro e w2 ⟨rfl, hb⟩; have BX2 := Aside0.mk (BX.out.below hb BX.out.lt); have BY2 := Aside0.mk (BY.out.below hb BY.out.lt); have BR2 := Aside0.mk (BR.out.below hb BR.out.lt); have W2 := Aside0.mk (below_then W0.out W0.out.size hb); have BB := Aside0.mk hb; clear hb) | (refine wpList_load_midg (by rfl) 29 (.tmp 14) rfl w.heap.size 35 rfl _ (l2.out _ BB.out) ?_))
  have BX3 := Aside0.mk BX2.out.drew
  have BY3 := Aside0.mk BY2.out.drew
  have BR3 := Aside0.mk BR2.out.drew
  have W3 := Aside0.mk (below_drew W2.out)
  clear BX BY BR W0 BX2 BY2 BR2 W2 l1 l2 BB
  refine start_ (n := 19) (S := fun w' => Blk w' w.heap.size 32 (dArr L (.slice U1 r1.length u1) (.slice U2 r2.length u2) s M) ∧ Blk w' (w.heap.size + 1) 32 (dArr P (.slice V1 q1.length v1) (.slice V2 q2.length v2) z Q) ∧ w'.cell? ⟨w.heap.size, 32, none⟩ = some (.slice U1 r1.length u1) ∧ w'.cell? ⟨w.heap.size, 33, none⟩ = some (.slice U2 r2.length u2) ∧ w'.cell? ⟨w.heap.size + 1, 32, none⟩ = some (.slice V1 q1.length v1) ∧ w'.cell? ⟨w.heap.size + 1, 33, none⟩ = some (.slice V2 q2.length v2) ∧ w'.cell? ⟨w.heap.size + 1, 34, none⟩ = some (.string z)) (ds := [17]) #[false, false, false, false, false, false, false, false, false, false, false, false, false, false, false, false, false, false, false] (by kernel_rfl) rfl rfl ⟨BX3.out, BY3.out, ((BX3.out.cell 32).trans X32.out), ((BX3.out.cell 33).trans X33.out), ((BY3.out.cell 32).trans Y32.out), ((BY3.out.cell 33).trans Y33.out), ((BY3.out.cell 34).trans Y34.out)⟩ (fun hHeld => ?_)
  refine pure_ (i := 0) (N := some 17) (v := ?_) (a' := ?_) #[true, false, false, false, false, false, false, false, false, false, false, false, false, false, false, false, false, false, false] rfl rfl (by kernel_rfl) (fun _ _ _ h => h) (Or.inl ⟨by rfl, ?_⟩) ?_ ?_
  rotate_left
  · intro w'
    go_simp
    with_reducible rfl
  rotate_left
  · simp only [Act.put, List.setIfInBounds_toArray, List.set_cons_zero, List.set_cons_succ, i64_w, i32_w]
    rfl
  refine pure_ (i := 2) (N := some 19) (v := ?_) (a' := ?_) #[true, false, true, false, false, false, false, false, false, false, false, false, false, false, false, false, false, false, false] rfl rfl (by kernel_rfl) (fun _ _ _ h => h) (Or.inl ⟨by rfl, ?_⟩) ?_ ?_
  rotate_left
  · intro w'
    go_simp
    with_reducible rfl
  rotate_left
  · simp only [Act.put, List.setIfInBounds_toArray, List.set_cons_zero, List.set_cons_succ, i64_w, i32_w]
    rfl
  refine pure_ (i := 4) (N := some 21) (v := ?_) (a' := ?_) #[true, false, true, false, true, false, false, false, false, false, false, false, false, false, false, false, false, false, false] rfl rfl (by kernel_rfl) (fun _ _ _ h => h) (Or.inl ⟨by rfl, ?_⟩) ?_ ?_
  rotate_left
  · intro w'
    go_simp
    with_reducible rfl
  rotate_left
  · simp only [Act.put, List.setIfInBounds_toArray, List.set_cons_zero, List.set_cons_succ, i64_w, i32_w]
    rfl
  refine pure_ (i := 7) (N := some 24) (v := ?_) (a' := ?_) #[true, false, true, false, true, false, false, true, false, false, false, false, false, false, false, false, false, false, false] rfl rfl (by kernel_rfl) (fun _ _ _ h => h) (Or.inl ⟨by rfl, ?_⟩) ?_ ?_
  rotate_left
  · intro w'
    go_simp
    with_reducible rfl
  rotate_left
  · simp only [Act.put, List.setIfInBounds_toArray, List.set_cons_zero, List.set_cons_succ, i64_w, i32_w]
    rfl
  refine pure_ (i := 9) (N := some 26) (v := ?_) (a' := ?_) #[true, false, true, false, true, false, false, true, false, true, false, false, false, false, false, false, false, false, false] rfl rfl (by kernel_rfl) (fun _ _ _ h => h) (Or.inl ⟨by rfl, ?_⟩) ?_ ?_
  rotate_left
  · intro w'
    go_simp
    with_reducible rfl
  rotate_left
  · simp only [Act.put, List.setIfInBounds_toArray, List.set_cons_zero, List.set_cons_succ, i64_w, i32_w]
    rfl
  refine pure_ (i := 12) (N := some 29) (v := ?_) (a' := ?_) #[true, false, true, false, true, false, false, true, false, true, false, false, true, false, false, false, false, false, false] rfl rfl (by kernel_rfl) (fun _ _ _ h => h) (Or.inl ⟨by rfl, ?_⟩) ?_ ?_
  rotate_left
  · intro w'
    go_simp
    with_reducible rfl
  rotate_left
  · simp only [Act.put, List.setIfInBounds_toArray, List.set_cons_zero, List.set_cons_succ, i64_w, i32_w]
    rfl
  refine pure_ (i := 14) (N := some 31) (v := ?_) (a' := ?_) #[true, false, true, false, true, false, false, true, false, true, false, false, true, false, true, false, false, false, false] rfl rfl (by kernel_rfl) (fun _ _ _ h => h) (Or.inl ⟨by rfl, ?_⟩) ?_ ?_
  rotate_left
  · intro w'
    go_simp
    with_reducible rfl
  rotate_left
  · simp only [Act.put, List.setIfInBounds_toArray, List.set_cons_zero, List.set_cons_succ, i64_w, i32_w]
    rfl
  refine take_ (i := 1) (N := some 18) (v := ?_) (a' := ?_) #[true, true, true, false, true, false, false, true, false, true, false, false, true, false, true, false, false, false, false] rfl rfl (by kernel_rfl) (fun _ _ _ h => h) (Or.inl ⟨by rfl, ?_⟩) hHeld ?_ ?_
  rotate_left
  · rintro w' ⟨s0, s1, s2, s3, s4, s5, s6⟩
    refine mid_loads 29 (.tmp 17) ?_ w.heap.size 0 ?_ (dArr_range w' _ L M hL.out.len hM.out.len _ _ s s0).1 Try.underlying29 ?_ ?_
    · rfl
    · rfl
    · rfl
    · rw [nums_length, hL.out.len]; kernel_rfl
  rotate_left
  · simp only [Act.put, List.setIfInBounds_toArray, List.set_cons_zero, List.set_cons_succ, i64_w, i32_w]
    rfl
  refine take_ (i := 3) (N := some 20) (v := ?_) (a' := ?_) #[true, true, true, true, true, false, false, true, false, true, false, false, true, false, true, false, false, false, false] rfl rfl (by kernel_rfl) (fun _ _ _ h => h) (Or.inl ⟨by rfl, ?_⟩) hHeld ?_ ?_
  rotate_left
  · rintro w' ⟨s0, s1, s2, s3, s4, s5, s6⟩
    go_simp
    with_reducible rfl
  rotate_left
  · simp only [Act.put, List.setIfInBounds_toArray, List.set_cons_zero, List.set_cons_succ, i64_w, i32_w]
    rfl
  refine take_ (i := 5) (N := some 22) (v := ?_) (a' := ?_) #[true, true, true, true, true, true, false, true, false, true, false, false, true, false, true, false, false, false, false] rfl rfl (by kernel_rfl) (fun _ _ _ h => h) (Or.inl ⟨by rfl, ?_⟩) hHeld ?_ ?_
  rotate_left
  · rintro w' ⟨s0, s1, s2, s3, s4, s5, s6⟩
    go_simp
    with_reducible rfl
  rotate_left
  · simp only [Act.put, List.setIfInBounds_toArray, List.set_cons_zero, List.set_cons_succ, i64_w, i32_w]
    rfl
  refine take_ (i := 8) (N := some 25) (v := ?_) (a' := ?_) #[true, true, true, true, true, true, false, true, true, true, false, false, true, false, true, false, false, false, false] rfl rfl (by kernel_rfl) (fun _ _ _ h => h) (Or.inl ⟨by rfl, ?_⟩) hHeld ?_ ?_
  rotate_left
  · rintro w' ⟨s0, s1, s2, s3, s4, s5, s6⟩
    go_simp
    with_reducible rfl
  rotate_left
  · simp only [Act.put, List.setIfInBounds_toArray, List.set_cons_zero, List.set_cons_succ, i64_w, i32_w]
    rfl
  refine take_ (i := 10) (N := some 27) (v := ?_) (a' := ?_) #[true, true, true, true, true, true, false, true, true, true, true, false, true, false, true, false, false, false, false] rfl rfl (by kernel_rfl) (fun _ _ _ h => h) (Or.inl ⟨by rfl, ?_⟩) hHeld ?_ ?_
  rotate_left
  · rintro w' ⟨s0, s1, s2, s3, s4, s5, s6⟩
    go_simp
    with_reducible rfl
  rotate_left
  · simp only [Act.put, List.setIfInBounds_toArray, List.set_cons_zero, List.set_cons_succ, i64_w, i32_w]
    rfl
  refine take_ (i := 13) (N := some 30) (v := ?_) (a' := ?_) #[true, true, true, true, true, true, false, true, true, true, true, false, true, true, true, false, false, false, false] rfl rfl (by kernel_rfl) (fun _ _ _ h => h) (Or.inl ⟨by rfl, ?_⟩) hHeld ?_ ?_
  rotate_left
  · rintro w' ⟨s0, s1, s2, s3, s4, s5, s6⟩
    go_simp
    with_reducible rfl
  rotate_left
  · simp only [Act.put, List.setIfInBounds_toArray, List.set_cons_zero, List.set_cons_succ, i64_w, i32_w]
    rfl
  refine take_ (i := 15) (N := some 32) (v := ?_) (a' := ?_) #[true, true, true, true, true, true, false, true, true, true, true, false, true, true, true, true, false, false, false] rfl rfl (by kernel_rfl) (fun _ _ _ h => h) (Or.inl ⟨by rfl, ?_⟩) hHeld ?_ ?_
  rotate_left
  · rintro w' ⟨s0, s1, s2, s3, s4, s5, s6⟩
    refine mid_loads 29 (.tmp 31) ?_ (w.heap.size + 1) 35 ?_ (dArr_range w' _ P Q hP.out.len hQ.out.len _ _ z s1).2 Try.underlying29 ?_ ?_
    · rfl
    · rfl
    · rfl
    · rw [nums_length, hQ.out.len]; kernel_rfl
  rotate_left
  · simp only [Act.put, List.setIfInBounds_toArray, List.set_cons_zero, List.set_cons_succ, i64_w, i32_w]
    rfl
  refine one_ (i := 6) (N := some 23) #[true, true, true, true, true, true, true, true, true, true, true, false, true, true, true, true, false, false, false] rfl rfl (by kernel_rfl) (by decide) (fun K hK => ?_)
  refine goes_ Try.func34 (by kernel_rfl) rfl #[.slice U1 r1.length u1, .slice V1 q1.length v1] (by rfl) rfl rfl (by simp only [List.map_toArray, List.map_cons, List.map_nil]; rfl) ?_
  with_reducible refine (both_calls U1 u1 r1 V1 v1 q1 _ (Kd.C_below hU1 W3.out) hu1 (Kd.C_below hV1 W3.out) hv1 m1 n1 hw1 hs1).mono ?_
  rintro e w4 ⟨vv1, rfl, hR, hb⟩
  refine ⟨_, rfl, ?_⟩
  obtain ⟨T1, t1, rfl⟩ := Kd.R_slice hR
  have BX4 := Aside0.mk (BX3.out.below hb BX3.out.lt)
  have BY4 := Aside0.mk (BY3.out.below hb BY3.out.lt)
  have BR4 := Aside0.mk (BR3.out.below hb BR3.out.lt)
  have W4 := Aside0.mk (below_then W3.out W3.out.size hb)
  have C14 := Aside0.mk hR
  clear hb hR
  refine hK.out _ _ ⟨BX4.out, BY4.out, ((BX4.out.cell 32).trans X32.out), ((BX4.out.cell 33).trans X33.out), ((BY4.out.cell 32).trans Y32.out), ((BY4.out.cell 33).trans Y33.out), ((BY4.out.cell 34).trans Y34.out)⟩ (fun hHeld => ?_)
  clear hK K
  refine norm_ (a' := ?_) ?_ ?_
  rotate_left
  · show Act.put _ (some 23) _ = _
    simp only [Act.put, List.setIfInBounds_toArray, List.set_cons_zero, List.set_cons_succ, i64_w, i32_w]
    rfl
  refine one_ (i := 11) (N := some 28) #[true, true, true, true, true, true, true, true, true, true, true, true, true, true, true, true, false, false, false] rfl rfl (by kernel_rfl) (by decide) (fun K hK => ?_)
  refine goes_ Try.func34 (by kernel_rfl) rfl #[.slice U2 r2.length u2, .slice V2 q2.length v2] (by rfl) rfl rfl (by simp only [List.map_toArray, List.map_cons, List.map_nil]; rfl) ?_
  with_reducible refine (both_calls U2 u2 r2 V2 v2 q2 _ (Kd.C_below hU2 W4.out) hu2 (Kd.C_below hV2 W4.out) hv2 m2 n2 hw2 hs2).mono ?_
  rintro e w5 ⟨vv2, rfl, hR, hb⟩
  refine ⟨_, rfl, ?_⟩
  obtain ⟨T2, t2, rfl⟩ := Kd.R_slice hR
  have BX5 := Aside0.mk (BX4.out.below hb BX4.out.lt)
  have BY5 := Aside0.mk (BY4.out.below hb BY4.out.lt)
  have BR5 := Aside0.mk (BR4.out.below hb BR4.out.lt)
  have W5 := Aside0.mk (below_then W4.out W4.out.size hb)
  have C15 := Aside0.mk (Kd.R_below C14.out hb)
  have C25 := Aside0.mk hR
  clear hb hR
  refine hK.out _ _ ⟨BX5.out, BY5.out, ((BX5.out.cell 32).trans X32.out), ((BX5.out.cell 33).trans X33.out), ((BY5.out.cell 32).trans Y32.out), ((BY5.out.cell 33).trans Y33.out), ((BY5.out.cell 34).trans Y34.out)⟩ (fun hHeld => ?_)
  clear hK K
  refine norm_ (a' := ?_) ?_ ?_
  rotate_left
  · show Act.put _ (some 28) _ = _
    simp only [Act.put, List.setIfInBounds_toArray, List.set_cons_zero, List.set_cons_succ, i64_w, i32_w]
    rfl
  refine pure_ (i := 16) (N := some 33) (v := ?_) (a' := ?_) #[true, true, true, true, true, true, true, true, true, true, true, true, true, true, true, true, true, false, false] rfl rfl (by kernel_rfl) (fun _ _ _ h => h) (Or.inl ⟨by rfl, ?_⟩) ?_ ?_
  rotate_left
  · intro w'
    refine op_builds 32 #[(0, .tmp 18), (1, .tmp 23), (2, .tmp 28), (3, .tmp 30), (4, .tmp 32)] ?_ (dArr L (.slice T1 (bothL (r1 ++ q1)).length t1) (.slice T2 (bothL (r2 ++ q2)).length t2) z Q) ((congrArg (Try.prog.built 32) ?_).trans (built_delta hL.out.len hQ.out.len T1 (bothL (r1 ++ q1)).length t1 T2 (bothL (r2 ++ q2)).length t2 z))
    · rfl
    · simp only [List.map_toArray, List.map_cons, List.map_nil]
      rfl
  rotate_left
  · simp only [Act.put, List.setIfInBounds_toArray, List.set_cons_zero, List.set_cons_succ, i64_w, i32_w]
    rfl
  refine last_ (i := 17) (N := none) #[true, true, true, true, true, true, true, true, true, true, true, true, true, true, true, true, true, true, false] rfl rfl (by kernel_rfl) (by decide) (fun K hK => ?_)
  refine skip_ (w1 := w5.setRow (w.heap.size + 1 + 1) (dArr L (.slice T1 (bothL (r1 ++ q1)).length t1) (.slice T2 (bothL (r2 ++ q2)).length t2) z Q)) (by rfl) rfl ?_ ?_
  · exact row_stores 32 (.tmp 4) (.tmp 33) rfl (w.heap.size + 1 + 1) _ rfl rfl BR5.out (by rw [dArr_size hL.out.len hQ.out.len]; kernel_rfl) (by rw [dArr_size hL.out.len hQ.out.len, dArr_size (outL_len _ _) (outL_len _ _)]) (dArr_one _ _ _ _ _ _ _ _ _)
  refine hK.out _ _ ?_
  clear hK K
  refine pure_ (i := 18) (N := some 5) (v := ?_) (a' := ?_) #[true, true, true, true, true, true, true, true, true, true, true, true, true, true, true, true, true, true, true] rfl rfl (by kernel_rfl) (fun _ _ _ h => h) (Or.inl ⟨by rfl, ?_⟩) ?_ ?_
  rotate_left
  · intro w'
    go_simp
    with_reducible rfl
  rotate_left
  · simp only [Act.put, List.setIfInBounds_toArray, List.set_cons_zero, List.set_cons_succ, i64_w, i32_w]
    rfl
  refine done_ (by kernel_rfl) ?_

  clear hHeld
  go_wp2_with fail
  have h3 := BR3.out.lt
  have h4 := BR4.out.lt
  have SZ : Aside0 ((dArr L (.slice T1 (bothL (r1 ++ q1)).length t1) (.slice T2 (bothL (r2 ++ q2)).length t2) z Q).size = 67) := ⟨dArr_size hL.out.len hQ.out.len _ _ _⟩
  exact bodyPost_ret (results_row_tmp (p := 4) (u := 5) (ty := 32) rfl _ _ (w.heap.size + 1 + 1) 32 _ _ rfl (BR5.out.setRow_ _) Try.underlying32 rfl (by rw [SZ.out]; kernel_rfl)) rfl ⟨T1, t1, T2, t2, rfl, Kd.R_lower (R_setRow C15.out (by omega) _) W3.out.size, Kd.R_lower (R_setRow C25.out (by omega) _) W4.out.size, below_setRow' W5.out (by omega) _⟩
end Go.Proofs.Ytoljjgabgdifbaa.H

