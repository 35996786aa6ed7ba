/- Layer 35 of the program: two deltas joined. Printed by the kit's print.py: functions of layer 35 and its answer. Layer 2's answer: no two unlike texts have one digest. -/
import Derived.Test.YtoljjgabgdifbaaZjT5toJ4
import Derived.Test.YtoljjgabgdifbaaZjH10toH11
import Derived.Test.YtoljjgabgdifbaaZjT2

namespace Go.Proofs.Ytoljjgabgdifbaa.H
open Go.RowKit Go.Proofs.YtoljjgabgdifbaaW.PrintWords Go.Proofs.YtoljjgabgdifbaaW.PrintLast Go.Proofs.YtoljjgabgdifbaaW.PrintMore
set_option linter.unusedVariables false
set_option linter.unusedSimpArgs false

set_option maxRecDepth 100000 in
set_option maxHeartbeats 8000000 in
theorem join_empty (L M P Q : List Int) (hL : Dig L) (hM : Dig M) (hP : Dig P) (hQ : Dig Q) (U1 : Option Addr) (u1 : Nat) (r1 : List S36) (U2 : Option Addr) (u2 : Nat) (r2 : List S36) (s : ByteArray) (V1 : Option Addr) (v1 : Nat) (q1 : List S36) (V2 : Option Addr) (v2 : Nat) (q2 : List S36) (z : ByteArray) (w : World)
    (hU1 : Kd.C k36 w U1 r1.length r1) (hu1 : r1.length ≤ u1) (hU2 : Kd.C k36 w U2 r2.length r2) (hu2 : r2.length ≤ u2) (hV1 : Kd.C k36 w V1 q1.length q1) (hv1 : q1.length ≤ v1) (hV2 : Kd.C k36 w V2 q2.length q2) (hv2 : q2.length ≤ v2)
    (m1 : r1.length ≤ 500000) (m2 : r2.length ≤ 500000) (n1 : q1.length ≤ 500000) (n2 : q2.length ≤ 500000)
    (hc : P = emptySum) :
    Calls Try.prog 19 #[.agg (dArr L (.slice U1 r1.length u1) (.slice U2 r2.length u2) s M), .agg (dArr P (.slice V1 q1.length v1) (.slice V2 q2.length v2) z Q)] w fun e w' => ∃ T1 t1 T2 t2, e = .returned (.tuple #[.agg (dArr P (.slice T1 q1.length t1) (.slice T2 q2.length t2) z Q), .int .i64 0]) ∧ Kd.R k36 36 w' w.heap.size (fun _ => True) (.slice T1 q1.length t1) q1 ∧ Kd.R k36 36 w' w.heap.size (fun _ => True) (.slice T2 q2.length t2) q2 ∧ Below w.heap.size w w' := by
  have BX := ((Blk.new w 32 (dArr L (.slice U1 r1.length u1) (.slice U2 r2.length u2) s M)).alloc (.cells (dArr P (.slice V1 q1.length v1) (.slice V2 q2.length v2) z Q) 32)).alloc (.cells (dArr (outL [] 0) (.slice none 0 0) (.slice none 0 0) ⟨#[]⟩ (outL [] 0)) 32)
  have BY := (Blk.new (w.alloc (.cells (dArr L (.slice U1 r1.length u1) (.slice U2 r2.length u2) s M) 32)) 32 (dArr P (.slice V1 q1.length v1) (.slice V2 q2.length v2) z Q)).alloc (.cells (dArr (outL [] 0) (.slice none 0 0) (.slice none 0 0) ⟨#[]⟩ (outL [] 0)) 32)
  have BR := Blk.new ((w.alloc (.cells (dArr L (.slice U1 r1.length u1) (.slice U2 r2.length u2) s M) 32)).alloc (.cells (dArr P (.slice V1 q1.length v1) (.slice V2 q2.length v2) z Q) 32)) 32 (dArr (outL [] 0) (.slice none 0 0) (.slice none 0 0) ⟨#[]⟩ (outL [] 0))
  have W0 := (((Below.refl w.heap.size w).alloc (Nat.le_refl _) (.cells (dArr L (.slice U1 r1.length u1) (.slice U2 r2.length u2) s M) 32)).alloc (by simp) (.cells (dArr P (.slice V1 q1.length v1) (.slice V2 q2.length v2) z Q) 32)).alloc (by simp; omega) (.cells (dArr (outL [] 0) (.slice none 0 0) (.slice none 0 0) ⟨#[]⟩ (outL [] 0)) 32)
  rw [sz] at BY
  rw [sz, sz] at BR
  generalize hw0 : (((w.alloc (.cells (dArr L (.slice U1 r1.length u1) (.slice U2 r2.length u2) s M) 32)).alloc (.cells (dArr P (.slice V1 q1.length v1) (.slice V2 q2.length v2) z Q) 32)).alloc (.cells (dArr (outL [] 0) (.slice none 0 0) (.slice none 0 0) ⟨#[]⟩ (outL [] 0)) 32)) = w0 at BX BY BR W0
  have HW0 := Aside0.mk hw0
  clear hw0
  have qe := eq_dig hP (imgSum_dig [] [] ⟨#[]⟩)
  rw [show imgSum [] [] ⟨#[]⟩ = emptySum from rfl] at qe
  have qm := eq_dig hP hM
  obtain ⟨E, hE⟩ : ∃ E, E = emptySum := ⟨_, rfl⟩
  have nothing_calls := fun W => nothing_calls W
  rw [← hE] at qe nothing_calls hc
  have l1 := Aside0.mk (run_loadAt_mid (P := Try.prog) w0 (w.heap.size + 1) 0 29 _ _ (dArr_range w0 _ P Q hP.len hQ.len _ _ z BY).1 Try.underlying29 rfl (by rw [nums_length, hP.len]; kernel_rfl))
  have l2 : ∀ W, Below w0.heap.size w0 W → (Instr.loadAt 29 (.pointer (some ⟨w.heap.size, 35, none⟩))).run Try.prog W = .ok (.agg (nums .u8 M).toArray) W := fun W hb => run_loadAt_mid (P := Try.prog) W w.heap.size 35 29 _ _ (dArr_range W _ L M hL.len hM.len _ _ s (BX.below hb BX.lt)).2 Try.underlying29 rfl (by rw [nums_length, hM.len]; kernel_rfl)
  have l2 := Aside0.mk l2
  have BX := Aside0.mk BX
  have BY := Aside0.mk BY
  have BR := Aside0.mk BR
  have W0 := Aside0.mk W0
  have SX : Aside0 ((dArr L (.slice U1 r1.length u1) (.slice U2 r2.length u2) s M).size = 67) := ⟨dArr_size hL.len hM.len _ _ _⟩
  have SYY : Aside0 ((dArr P (.slice V1 q1.length v1) (.slice V2 q2.length v2) z Q).size = 67) := ⟨dArr_size hP.len hQ.len _ _ _⟩
  obtain ⟨x32, x33, x34⟩ := dArr_mid L M hL.len (.slice U1 r1.length u1) (.slice U2 r2.length u2) s
  obtain ⟨y32, y33, y34⟩ := dArr_mid P Q hP.len (.slice V1 q1.length v1) (.slice V2 q2.length v2) z
  have X32 := Aside0.mk x32
  have X33 := Aside0.mk x33
  have Y32 := Aside0.mk y32
  have Y33 := Aside0.mk y33
  have Y34 := Aside0.mk y34
  have hL := Aside0.mk hL
  have hM := Aside0.mk hM
  have hP := Aside0.mk hP
  have hQ := Aside0.mk hQ
  clear x32 x33 x34 y32 y33 y34
  rw [decide_eq_true hc] at qe
  clear hc hE qm
  go_enter Try.func19, Try.ntmps19
  go_wp2_with (first | (rw [show (((w.alloc (.cells (dArr L (.slice U1 r1.length u1) (.slice U2 r2.length u2) s M) 32)).alloc (.cells (dArr P (.slice V1 q1.length v1) (.slice V2 q2.length v2) z Q) 32)).alloc (.cells Try.zeroCells32 32)) = w0 from (by rw [z32]; exact HW0.out)]) | (refine wpList_load_midg (by rfl) 29 (.tmp 6) rfl (w.heap.size + 1) 0 rfl _ l1.out ?_) | ((with_reducible refine (nothing_calls _).mono ?_); rintro e w2 ⟨rfl, hb⟩; have BX2 := Aside0.mk (BX.out.below hb BX.out.lt); have BY2 := Aside0.mk (BY.out.below hb BY.out.lt); have BR2 := Aside0.mk (BR.out.below hb BR.out.lt); have W2 := Aside0.mk (below_then W0.out W0.out.size hb); have BB := Aside0.mk hb; clear hb) | (refine wpList_load_midg (by rfl) 29 (.tmp 14) rfl w.heap.size 35 rfl _ (l2.out _ BB.out) ?_) | (refine wpList_load_row rfl 32 (.tmp 3) rfl (w.heap.size + 1) rfl 32 _ (0, 0) _ BY2.out Try.underlying32 rfl (by rw [SYY.out]; kernel_rfl) ?_) | ((with_reducible refine (copied_calls P Q hP.out.len hQ.out.len V1 v1 q1 V2 v2 q2 z _ (Kd.C_below hV1 W2.out) hv1 (Kd.C_below hV2 W2.out) hv2 (by omega) (by omega)).mono ?_); rintro e w3 ⟨T1, t1, T2, t2, rfl, hR1, hR2, hb⟩; have BR3 := Aside0.mk (BR2.out.below hb BR2.out.lt); have HL2 := Aside0.mk BR2.out.lt; have W3 := Aside0.mk (below_then W2.out W2.out.size hb); have R1 := Aside0.mk hR1; have R2 := Aside0.mk hR2; have SZ : Aside0 ((dArr P (.slice T1 q1.length t1) (.slice T2 q2.length t2) z Q).size = 67) := ⟨dArr_size hP.out.len hQ.out.len _ _ _⟩; clear hb hR1 hR2) | (refine wpList_store_row rfl 32 (.tmp 4) (.tmp 12) rfl (w.heap.size + 1 + 1) _ rfl rfl 32 _ BR3.out (by rw [SZ.out]; kernel_rfl) (by rw [SZ.out]; kernel_rfl) (dArr_one _ _ _ _ _ _ _ _ _) ?_))
  have LW : w.heap.size ≤ w2.heap.size := W2.out.size
  exact bodyPost_ret (results_row_tmp (p := 4) (u := 5) (ty := 32) rfl _ _ (w.heap.size + 1 + 1) 32 _ _ rfl (BR3.out.setRow_ _) Try.underlying32 rfl (by rw [SZ.out]; kernel_rfl)) rfl ⟨T1, t1, T2, t2, rfl, Kd.R_lower (R_setRow R1.out HL2.out _) LW, Kd.R_lower (R_setRow R2.out HL2.out _) LW, below_setRow' W3.out (by omega) _⟩
set_option maxRecDepth 100000 in
set_option maxHeartbeats 8000000 in
theorem join_both (L M P Q : List Int) (hL : Dig L) (hM : Dig M) (hP : Dig P) (hQ : Dig Q) (U1 : Option Addr) (u1 : Nat) (r1 : List S36) (U2 : Option Addr) (u2 : Nat) (r2 : List S36) (s : ByteArray) (V1 : Option Addr) (v1 : Nat) (q1 : List S36) (V2 : Option Addr) (v2 : Nat) (q2 : List S36) (z : ByteArray) (w : World)
    (hU1 : Kd.C k36 w U1 r1.length r1) (hu1 : r1.length ≤ u1) (hU2 : Kd.C k36 w U2 r2.length r2) (hu2 : r2.length ≤ u2) (hV1 : Kd.C k36 w V1 q1.length q1) (hv1 : q1.length ≤ v1) (hV2 : Kd.C k36 w V2 q2.length q2) (hv2 : q2.length ≤ v2)
    (m1 : r1.length ≤ 500000) (m2 : r2.length ≤ 500000) (n1 : q1.length ≤ 500000) (n2 : q2.length ≤ 500000)
    (hw1 : ∀ j : Nat, (Lit.int .i64 (rd_T36 (r1 ++ q1) (j : Int)).f0).wf = true) (hs1 : ∀ j : Nat, (rd_T36 (r1 ++ q1) (j : Int)).f1.size ≤ maxLen) (hw2 : ∀ j : Nat, (Lit.int .i64 (rd_T36 (r2 ++ q2) (j : Int)).f0).wf = true) (hs2 : ∀ j : Nat, (rd_T36 (r2 ++ q2) (j : Int)).f1.size ≤ maxLen)
    (hc : P ≠ emptySum) (hd : P = M) :
    Calls Try.prog 19 #[.agg (dArr L (.slice U1 r1.length u1) (.slice U2 r2.length u2) s M), .agg (dArr P (.slice V1 q1.length v1) (.slice V2 q2.length v2) z Q)] w fun e w' => ∃ T1 t1 T2 t2, e = .returned (.tuple #[.agg (dArr L (.slice T1 (bothL (r1 ++ q1)).length t1) (.slice T2 (bothL (r2 ++ q2)).length t2) z Q), .int .i64 0]) ∧ Kd.R k36 36 w' w.heap.size (fun _ => True) (.slice T1 (bothL (r1 ++ q1)).length t1) (bothL (r1 ++ q1)) ∧ Kd.R k36 36 w' w.heap.size (fun _ => True) (.slice T2 (bothL (r2 ++ q2)).length t2) (bothL (r2 ++ q2)) ∧ Below w.heap.size w w' := by
  have BX := ((Blk.new w 32 (dArr L (.slice U1 r1.length u1) (.slice U2 r2.length u2) s M)).alloc (.cells (dArr P (.slice V1 q1.length v1) (.slice V2 q2.length v2) z Q) 32)).alloc (.cells (dArr (outL [] 0) (.slice none 0 0) (.slice none 0 0) ⟨#[]⟩ (outL [] 0)) 32)
  have BY := (Blk.new (w.alloc (.cells (dArr L (.slice U1 r1.length u1) (.slice U2 r2.length u2) s M) 32)) 32 (dArr P (.slice V1 q1.length v1) (.slice V2 q2.length v2) z Q)).alloc (.cells (dArr (outL [] 0) (.slice none 0 0) (.slice none 0 0) ⟨#[]⟩ (outL [] 0)) 32)
  have BR := Blk.new ((w.alloc (.cells (dArr L (.slice U1 r1.length u1) (.slice U2 r2.length u2) s M) 32)).alloc (.cells (dArr P (.slice V1 q1.length v1) (.slice V2 q2.length v2) z Q) 32)) 32 (dArr (outL [] 0) (.slice none 0 0) (.slice none 0 0) ⟨#[]⟩ (outL [] 0))
  have W0 := (((Below.refl w.heap.size w).alloc (Nat.le_refl _) (.cells (dArr L (.slice U1 r1.length u1) (.slice U2 r2.length u2) s M) 32)).alloc (by simp) (.cells (dArr P (.slice V1 q1.length v1) (.slice V2 q2.length v2) z Q) 32)).alloc (by simp; omega) (.cells (dArr (outL [] 0) (.slice none 0 0) (.slice none 0 0) ⟨#[]⟩ (outL [] 0)) 32)
  rw [sz] at BY
  rw [sz, sz] at BR
  generalize hw0 : (((w.alloc (.cells (dArr L (.slice U1 r1.length u1) (.slice U2 r2.length u2) s M) 32)).alloc (.cells (dArr P (.slice V1 q1.length v1) (.slice V2 q2.length v2) z Q) 32)).alloc (.cells (dArr (outL [] 0) (.slice none 0 0) (.slice none 0 0) ⟨#[]⟩ (outL [] 0)) 32)) = w0 at BX BY BR W0
  have HW0 := Aside0.mk hw0
  clear hw0
  have qe := eq_dig hP (imgSum_dig [] [] ⟨#[]⟩)
  rw [show imgSum [] [] ⟨#[]⟩ = emptySum from rfl] at qe
  have qm := eq_dig hP hM
  obtain ⟨E, hE⟩ : ∃ E, E = emptySum := ⟨_, rfl⟩
  have nothing_calls := fun W => nothing_calls W
  rw [← hE] at qe nothing_calls hc
  have l1 := Aside0.mk (run_loadAt_mid (P := Try.prog) w0 (w.heap.size + 1) 0 29 _ _ (dArr_range w0 _ P Q hP.len hQ.len _ _ z BY).1 Try.underlying29 rfl (by rw [nums_length, hP.len]; kernel_rfl))
  have l2 : ∀ W, Below w0.heap.size w0 W → (Instr.loadAt 29 (.pointer (some ⟨w.heap.size, 35, none⟩))).run Try.prog W = .ok (.agg (nums .u8 M).toArray) W := fun W hb => run_loadAt_mid (P := Try.prog) W w.heap.size 35 29 _ _ (dArr_range W _ L M hL.len hM.len _ _ s (BX.below hb BX.lt)).2 Try.underlying29 rfl (by rw [nums_length, hM.len]; kernel_rfl)
  have l2 := Aside0.mk l2
  have BX := Aside0.mk BX
  have BY := Aside0.mk BY
  have BR := Aside0.mk BR
  have W0 := Aside0.mk W0
  have SX : Aside0 ((dArr L (.slice U1 r1.length u1) (.slice U2 r2.length u2) s M).size = 67) := ⟨dArr_size hL.len hM.len _ _ _⟩
  have SYY : Aside0 ((dArr P (.slice V1 q1.length v1) (.slice V2 q2.length v2) z Q).size = 67) := ⟨dArr_size hP.len hQ.len _ _ _⟩
  obtain ⟨x32, x33, x34⟩ := dArr_mid L M hL.len (.slice U1 r1.length u1) (.slice U2 r2.length u2) s
  obtain ⟨y32, y33, y34⟩ := dArr_mid P Q hP.len (.slice V1 q1.length v1) (.slice V2 q2.length v2) z
  have X32 := Aside0.mk x32
  have X33 := Aside0.mk x33
  have Y32 := Aside0.mk y32
  have Y33 := Aside0.mk y33
  have Y34 := Aside0.mk y34
  have hL := Aside0.mk hL
  have hM := Aside0.mk hM
  have hP := Aside0.mk hP
  have hQ := Aside0.mk hQ
  clear x32 x33 x34 y32 y33 y34
  rw [decide_eq_false hc] at qe
  rw [decide_eq_true hd] at qm
  clear hc hE hd
  go_enter Try.func19, Try.ntmps19
  go_wp2_with (first | (rw [show (((w.alloc (.cells (dArr L (.slice U1 r1.length u1) (.slice U2 r2.length u2) s M) 32)).alloc (.cells (dArr P (.slice V1 q1.length v1) (.slice V2 q2.length v2) z Q) 32)).alloc (.cells Try.zeroCells32 32)) = w0 from (by rw [z32]; exact HW0.out)]) | (refine wpList_load_midg (by rfl) 29 (.tmp 6) rfl (w.heap.size + 1) 0 rfl _ l1.out ?_) | ((with_reducible refine (nothing_calls _).mono ?_); rintro e w2 ⟨rfl, hb⟩; have BX2 := Aside0.mk (BX.out.below hb BX.out.lt); have BY2 := Aside0.mk (BY.out.below hb BY.out.lt); have BR2 := Aside0.mk (BR.out.below hb BR.out.lt); have W2 := Aside0.mk (below_then W0.out W0.out.size hb); have BB := Aside0.mk hb; clear hb) | (refine wpList_load_midg (by rfl) 29 (.tmp 14) rfl w.heap.size 35 rfl _ (l2.out _ BB.out) ?_))
  have BX3 := Aside0.mk BX2.out.drew
  have BY3 := Aside0.mk BY2.out.drew
  have BR3 := Aside0.mk BR2.out.drew
  have W3 := Aside0.mk (below_drew W2.out)
  clear BX BY BR W0 BX2 BY2 BR2 W2 l1 l2 BB
  refine start_ (n := 19) (S := fun w' => Blk w' w.heap.size 32 (dArr L (.slice U1 r1.length u1) (.slice U2 r2.length u2) s M) ∧ Blk w' (w.heap.size + 1) 32 (dArr P (.slice V1 q1.length v1) (.slice V2 q2.length v2) z Q) ∧ w'.cell? ⟨w.heap.size, 32, none⟩ = some (.slice U1 r1.length u1) ∧ w'.cell? ⟨w.heap.size, 33, none⟩ = some (.slice U2 r2.length u2) ∧ w'.cell? ⟨w.heap.size + 1, 32, none⟩ = some (.slice V1 q1.length v1) ∧ w'.cell? ⟨w.heap.size + 1, 33, none⟩ = some (.slice V2 q2.length v2) ∧ w'.cell? ⟨w.heap.size + 1, 34, none⟩ = some (.string z)) (ds := [17]) #[false, false, false, false, false, false, false, false, false, false, false, false, false, false, false, false, false, false, false] (by kernel_rfl) rfl rfl ⟨BX3.out, BY3.out, ((BX3.out.cell 32).trans X32.out), ((BX3.out.cell 33).trans X33.out), ((BY3.out.cell 32).trans Y32.out), ((BY3.out.cell 33).trans Y33.out), ((BY3.out.cell 34).trans Y34.out)⟩ (fun hHeld => ?_)
  refine pure_ (i := 0) (N := some 17) (v := ?_) (a' := ?_) #[true, false, false, false, false, false, false, false, false, false, false, false, false, false, false, false, false, false, false] rfl rfl (by kernel_rfl) (fun _ _ _ h => h) (Or.inl ⟨by rfl, ?_⟩) ?_ ?_
  rotate_left
  · intro w'
    go_simp
    with_reducible rfl
  rotate_left
  · simp only [Act.put, List.setIfInBounds_toArray, List.set_cons_zero, List.set_cons_succ, i64_w, i32_w]
    rfl
  refine pure_ (i := 2) (N := some 19) (v := ?_) (a' := ?_) #[true, false, true, false, false, false, false, false, false, false, false, false, false, false, false, false, false, false, false] rfl rfl (by kernel_rfl) (fun _ _ _ h => h) (Or.inl ⟨by rfl, ?_⟩) ?_ ?_
  rotate_left
  · intro w'
    go_simp
    with_reducible rfl
  rotate_left
  · simp only [Act.put, List.setIfInBounds_toArray, List.set_cons_zero, List.set_cons_succ, i64_w, i32_w]
    rfl
  refine pure_ (i := 4) (N := some 21) (v := ?_) (a' := ?_) #[true, false, true, false, true, false, false, false, false, false, false, false, false, false, false, false, false, false, false] rfl rfl (by kernel_rfl) (fun _ _ _ h => h) (Or.inl ⟨by rfl, ?_⟩) ?_ ?_
  rotate_left
  · intro w'
    go_simp
    with_reducible rfl
  rotate_left
  · simp only [Act.put, List.setIfInBounds_toArray, List.set_cons_zero, List.set_cons_succ, i64_w, i32_w]
    rfl
  refine pure_ (i := 7) (N := some 24) (v := ?_) (a' := ?_) #[true, false, true, false, true, false, false, true, false, false, false, false, false, false, false, false, false, false, false] rfl rfl (by kernel_rfl) (fun _ _ _ h => h) (Or.inl ⟨by rfl, ?_⟩) ?_ ?_
  rotate_left
  · intro w'
    go_simp
    with_reducible rfl
  rotate_left
  · simp only [Act.put, List.setIfInBounds_toArray, List.set_cons_zero, List.set_cons_succ, i64_w, i32_w]
    rfl
  refine pure_ (i := 9) (N := some 26) (v := ?_) (a' := ?_) #[true, false, true, false, true, false, false, true, false, true, false, false, false, false, false, false, false, false, false] rfl rfl (by kernel_rfl) (fun _ _ _ h => h) (Or.inl ⟨by rfl, ?_⟩) ?_ ?_
  rotate_left
  · intro w'
    go_simp
    with_reducible rfl
  rotate_left
  · simp only [Act.put, List.setIfInBounds_toArray, List.set_cons_zero, List.set_cons_succ, i64_w, i32_w]
    rfl
  refine pure_ (i := 12) (N := some 29) (v := ?_) (a' := ?_) #[true, false, true, false, true, false, false, true, false, true, false, false, true, false, false, false, false, false, false] rfl rfl (by kernel_rfl) (fun _ _ _ h => h) (Or.inl ⟨by rfl, ?_⟩) ?_ ?_
  rotate_left
  · intro w'
    go_simp
    with_reducible rfl
  rotate_left
  · simp only [Act.put, List.setIfInBounds_toArray, List.set_cons_zero, List.set_cons_succ, i64_w, i32_w]
    rfl
  refine pure_ (i := 14) (N := some 31) (v := ?_) (a' := ?_) #[true, false, true, false, true, false, false, true, false, true, false, false, true, false, true, false, false, false, false] rfl rfl (by kernel_rfl) (fun _ _ _ h => h) (Or.inl ⟨by rfl, ?_⟩) ?_ ?_
  rotate_left
  · intro w'
    go_simp
    with_reducible rfl
  rotate_left
  · simp only [Act.put, List.setIfInBounds_toArray, List.set_cons_zero, List.set_cons_succ, i64_w, i32_w]
    rfl
  refine take_ (i := 1) (N := some 18) (v := ?_) (a' := ?_) #[true, true, true, false, true, false, false, true, false, true, false, false, true, false, true, false, false, false, false] rfl rfl (by kernel_rfl) (fun _ _ _ h => h) (Or.inl ⟨by rfl, ?_⟩) hHeld ?_ ?_
  rotate_left
  · rintro w' ⟨s0, s1, s2, s3, s4, s5, s6⟩
    refine mid_loads 29 (.tmp 17) ?_ w.heap.size 0 ?_ (dArr_range w' _ L M hL.out.len hM.out.len _ _ s s0).1 Try.underlying29 ?_ ?_
    · rfl
    · rfl
    · rfl
    · rw [nums_length, hL.out.len]; kernel_rfl
  rotate_left
  · simp only [Act.put, List.setIfInBounds_toArray, List.set_cons_zero, List.set_cons_succ, i64_w, i32_w]
    rfl
  refine take_ (i := 3) (N := some 20) (v := ?_) (a' := ?_) #[true, true, true, true, true, false, false, true, false, true, false, false, true, false, true, false, false, false, false] rfl rfl (by kernel_rfl) (fun _ _ _ h => h) (Or.inl ⟨by rfl, ?_⟩) hHeld ?_ ?_
  rotate_left
  · rintro w' ⟨s0, s1, s2, s3, s4, s5, s6⟩
    go_simp
    with_reducible rfl
  rotate_left
  · simp only [Act.put, List.setIfInBounds_toArray, List.set_cons_zero, List.set_cons_succ, i64_w, i32_w]
    rfl
  refine take_ (i := 5) (N := some 22) (v := ?_) (a' := ?_) #[true, true, true, true, true, true, false, true, false, true, false, false, true, false, true, false, false, false, false] rfl rfl (by kernel_rfl) (fun _ _ _ h => h) (Or.inl ⟨by rfl, ?_⟩) hHeld ?_ ?_
  rotate_left
  · rintro w' ⟨s0, s1, s2, s3, s4, s5, s6⟩
    go_simp
    with_reducible rfl
  rotate_left
  · simp only [Act.put, List.setIfInBounds_toArray, List.set_cons_zero, List.set_cons_succ, i64_w, i32_w]
    rfl
  refine take_ (i := 8) (N := some 25) (v := ?_) (a' := ?_) #[true, true, true, true, true, true, false, true, true, true, false, false, true, false, true, false, false, false, false] rfl rfl (by kernel_rfl) (fun _ _ _ h => h) (Or.inl ⟨by rfl, ?_⟩) hHeld ?_ ?_
  rotate_left
  · rintro w' ⟨s0, s1, s2, s3, s4, s5, s6⟩
    go_simp
    with_reducible rfl
  rotate_left
  · simp only [Act.put, List.setIfInBounds_toArray, List.set_cons_zero, List.set_cons_succ, i64_w, i32_w]
    rfl
  refine take_ (i := 10) (N := some 27) (v := ?_) (a' := ?_) #[true, true, true, true, true, true, false, true, true, true, true, false, true, false, true, false, false, false, false] rfl rfl (by kernel_rfl) (fun _ _ _ h => h) (Or.inl ⟨by rfl, ?_⟩) hHeld ?_ ?_
  rotate_left
  · rintro w' ⟨s0, s1, s2, s3, s4, s5, s6⟩
    go_simp
    with_reducible rfl
  rotate_left
  · simp only [Act.put, List.setIfInBounds_toArray, List.set_cons_zero, List.set_cons_succ, i64_w, i32_w]
    rfl
  refine take_ (i := 13) (N := some 30) (v := ?_) (a' := ?_) #[true, true, true, true, true, true, false, true, true, true, true, false, true, true, true, false, false, false, false] rfl rfl (by kernel_rfl) (fun _ _ _ h => h) (Or.inl ⟨by rfl, ?_⟩) hHeld ?_ ?_
  rotate_left
  · rintro w' ⟨s0, s1, s2, s3, s4, s5, s6⟩
    go_simp
    with_reducible rfl
  rotate_left
  · simp only [Act.put, List.setIfInBounds_toArray, List.set_cons_zero, List.set_cons_succ, i64_w, i32_w]
    rfl
  refine take_ (i := 15) (N := some 32) (v := ?_) (a' := ?_) #[true, true, true, true, true, true, false, true, true, true, true, false, true, true, true, true, false, false, false] rfl rfl (by kernel_rfl) (fun _ _ _ h => h) (Or.inl ⟨by rfl, ?_⟩) hHeld ?_ ?_
  rotate_left
  · rintro w' ⟨s0, s1, s2, s3, s4, s5, s6⟩
    refine mid_loads 29 (.tmp 31) ?_ (w.heap.size + 1) 35 ?_ (dArr_range w' _ P Q hP.out.len hQ.out.len _ _ z s1).2 Try.underlying29 ?_ ?_
    · rfl
    · rfl
    · rfl
    · rw [nums_length, hQ.out.len]; kernel_rfl
  rotate_left
  · simp only [Act.put, List.setIfInBounds_toArray, List.set_cons_zero, List.set_cons_succ, i64_w, i32_w]
    rfl
  refine one_ (i := 6) (N := some 23) #[true, true, true, true, true, true, true, true, true, true, true, false, true, true, true, true, false, false, false] rfl rfl (by kernel_rfl) (by decide) (fun K hK => ?_)
  refine goes_ Try.func34 (by kernel_rfl) rfl #[.slice U1 r1.length u1, .slice V1 q1.length v1] (by rfl) rfl rfl (by simp only [List.map_toArray, List.map_cons, List.map_nil]; rfl) ?_
  with_reducible refine (both_calls U1 u1 r1 V1 v1 q1 _ (Kd.C_below hU1 W3.out) hu1 (Kd.C_below hV1 W3.out) hv1 m1 n1 hw1 hs1).mono ?_
  rintro e w4 ⟨vv1, rfl, hR, hb⟩
  refine ⟨_, rfl, ?_⟩
  obtain ⟨T1, t1, rfl⟩ := Kd.R_slice hR
  have BX4 := Aside0.mk (BX3.out.below hb BX3.out.lt)
  have BY4 := Aside0.mk (BY3.out.below hb BY3.out.lt)
  have BR4 := Aside0.mk (BR3.out.below hb BR3.out.lt)
  have W4 := Aside0.mk (below_then W3.out W3.out.size hb)
  have C14 := Aside0.mk hR
  clear hb hR
  refine hK.out _ _ ⟨BX4.out, BY4.out, ((BX4.out.cell 32).trans X32.out), ((BX4.out.cell 33).trans X33.out), ((BY4.out.cell 32).trans Y32.out), ((BY4.out.cell 33).trans Y33.out), ((BY4.out.cell 34).trans Y34.out)⟩ (fun hHeld => ?_)
  clear hK K
  refine norm_ (a' := ?_) ?_ ?_
  rotate_left
  · show Act.put _ (some 23) _ = _
    simp only [Act.put, List.setIfInBounds_toArray, List.set_cons_zero, List.set_cons_succ, i64_w, i32_w]
    rfl
  refine one_ (i := 11) (N := some 28) #[true, true, true, true, true, true, true, true, true, true, true, true, true, true, true, true, false, false, false] rfl rfl (by kernel_rfl) (by decide) (fun K hK => ?_)
  refine goes_ Try.func34 (by kernel_rfl) rfl #[.slice U2 r2.length u2, .slice V2 q2.length v2] (by rfl) rfl rfl (by simp only [List.map_toArray, List.map_cons, List.map_nil]; rfl) ?_
  with_reducible refine (both_calls U2 u2 r2 V2 v2 q2 _ (Kd.C_below hU2 W4.out) hu2 (Kd.C_below hV2 W4.out) hv2 m2 n2 hw2 hs2).mono ?_
  rintro e w5 ⟨vv2, rfl, hR, hb⟩
  refine ⟨_, rfl, ?_⟩
  obtain ⟨T2, t2, rfl⟩ := Kd.R_slice hR
  have BX5 := Aside0.mk (BX4.out.below hb BX4.out.lt)
  have BY5 := Aside0.mk (BY4.out.below hb BY4.out.lt)
  have BR5 := Aside0.mk (BR4.out.below hb BR4.out.lt)
  have W5 := Aside0.mk (below_then W4.out W4.out.size hb)
  have C15 := Aside0.mk (Kd.R_below C14.out hb)
  have C25 := Aside0.mk hR
  clear hb hR
  refine hK.out _ _ ⟨BX5.out, BY5.out, ((BX5.out.cell 32).trans X32.out), ((BX5.out.cell 33).trans X33.out), ((BY5.out.cell 32).trans Y32.out), ((BY5.out.cell 33).trans Y33.out), ((BY5.out.cell 34).trans Y34.out)⟩ (fun hHeld => ?_)
  clear hK K
  refine norm_ (a' := ?_) ?_ ?_
  rotate_left
  · show Act.put _ (some 28) _ = _
    simp only [Act.put, List.setIfInBounds_toArray, List.set_cons_zero, List.set_cons_succ, i64_w, i32_w]
    rfl
  refine pure_ (i := 16) (N := some 33) (v := ?_) (a' := ?_) #[true, true, true, true, true, true, true, true, true, true, true, true, true, true, true, true, true, false, false] rfl rfl (by kernel_rfl) (fun _ _ _ h => h) (Or.inl ⟨by rfl, ?_⟩) ?_ ?_
  rotate_left
  · intro w'
    refine op_builds 32 #[(0, .tmp 18), (1, .tmp 23), (2, .tmp 28), (3, .tmp 30), (4, .tmp 32)] ?_ (dArr L (.slice T1 (bothL (r1 ++ q1)).length t1) (.slice T2 (bothL (r2 ++ q2)).length t2) z Q) ((congrArg (Try.prog.built 32) ?_).trans (built_delta hL.out.len hQ.out.len T1 (bothL (r1 ++ q1)).length t1 T2 (bothL (r2 ++ q2)).length t2 z))
    · rfl
    · simp only [List.map_toArray, List.map_cons, List.map_nil]
      rfl
  rotate_left
  · simp only [Act.put, List.setIfInBounds_toArray, List.set_cons_zero, List.set_cons_succ, i64_w, i32_w]
    rfl
  refine last_ (i := 17) (N := none) #[true, true, true, true, true, true, true, true, true, true, true, true, true, true, true, true, true, true, false] rfl rfl (by kernel_rfl) (by decide) (fun K hK => ?_)
  refine skip_ (w1 := w5.setRow (w.heap.size + 1 + 1) (dArr L (.slice T1 (bothL (r1 ++ q1)).length t1) (.slice T2 (bothL (r2 ++ q2)).length t2) z Q)) (by rfl) rfl ?_ ?_
  · exact row_stores 32 (.tmp 4) (.tmp 33) rfl (w.heap.size + 1 + 1) _ rfl rfl BR5.out (by rw [dArr_size hL.out.len hQ.out.len]; kernel_rfl) (by rw [dArr_size hL.out.len hQ.out.len, dArr_size (outL_len _ _) (outL_len _ _)]) (dArr_one _ _ _ _ _ _ _ _ _)
  refine hK.out _ _ ?_
  clear hK K
  refine pure_ (i := 18) (N := some 5) (v := ?_) (a' := ?_) #[true, true, true, true, true, true, true, true, true, true, true, true, true, true, true, true, true, true, true] rfl rfl (by kernel_rfl) (fun _ _ _ h => h) (Or.inl ⟨by rfl, ?_⟩) ?_ ?_
  rotate_left
  · intro w'
    go_simp
    with_reducible rfl
  rotate_left
  · simp only [Act.put, List.setIfInBounds_toArray, List.set_cons_zero, List.set_cons_succ, i64_w, i32_w]
    rfl
  refine done_ (by kernel_rfl) ?_

  clear hHeld
  go_wp2_with fail
  have h3 := BR3.out.lt
  have h4 := BR4.out.lt
  have SZ : Aside0 ((dArr L (.slice T1 (bothL (r1 ++ q1)).length t1) (.slice T2 (bothL (r2 ++ q2)).length t2) z Q).size = 67) := ⟨dArr_size hL.out.len hQ.out.len _ _ _⟩
  exact bodyPost_ret (results_row_tmp (p := 4) (u := 5) (ty := 32) rfl _ _ (w.heap.size + 1 + 1) 32 _ _ rfl (BR5.out.setRow_ _) Try.underlying32 rfl (by rw [SZ.out]; kernel_rfl)) rfl ⟨T1, t1, T2, t2, rfl, Kd.R_lower (R_setRow C15.out (by omega) _) W3.out.size, Kd.R_lower (R_setRow C25.out (by omega) _) W4.out.size, below_setRow' W5.out (by omega) _⟩
end Go.Proofs.Ytoljjgabgdifbaa.H


namespace Go.Proofs.Ytoljjgabgdifbaa.H
open Go.RowKit Go.Proofs.YtoljjgabgdifbaaW.PrintWords Go.Proofs.YtoljjgabgdifbaaW.PrintLast Go.Proofs.YtoljjgabgdifbaaW.PrintMore
attribute [local go_sem] max2_int min2_int max_two min_two max_three min_three max_four min_four
set_option linter.unusedVariables false
set_option linter.unusedSimpArgs false
/-! ### hibernacleref35_texts: function 27 -/
def hibernacleref35_texts.l0 : Nat → List ByteArray → List ByteArray → Int → Option (Bool)
  | 0, _, _, _ => none
  | k + 1, x0, x1, x5 => if x5 < (x0.length : Int) then (if 0 ≤ x5 then (if x5 < (x1.length : Int) then (if (rdOf ByteArray.empty x0 x5).toList = (rdOf ByteArray.empty x1 x5).toList then (hibernacleref35_texts.l0 k x0 x1 (wrap64 (x5 + 1))) else (some false)) else (none)) else (none)) else (some true)
def hibernacleref35_texts.f (k : Nat) (l0 : List ByteArray) (l1 : List ByteArray) : Option (Bool) := if (l0.length : Int) = (l1.length : Int) then (hibernacleref35_texts.l0 k l0 l1 0) else (some false)
theorem hibernacleref35_texts.mono_l : ∀ k, (∀ y0 y1 y2, LeO (hibernacleref35_texts.l0 k y0 y1 y2) (hibernacleref35_texts.l0 (k + 1) y0 y1 y2))
  | 0 => fun _ _ _ r h => by simp [hibernacleref35_texts.l0] at h
  | k + 1 => by
    have ih0 := hibernacleref35_texts.mono_l k
    · intro y0 y1 y2
      unfold hibernacleref35_texts.l0
      repeat' first
      | (with_reducible exact ih0 _ _ _)
      | (with_reducible exact LeO.refl _)
      | (with_reducible exact LeO.none _)
      | (with_reducible refine LeO.ite ?_ ?_)
      | (with_reducible refine LeO.bind ?_ (fun _ => ?_))
      | exact ih0 _ _ _
      | exact LeO.none _
      | refine LeO.ite ?_ ?_
      | refine LeO.bind ?_ (fun _ => ?_)
theorem hibernacleref35_texts.mono : ∀ a0 a1 k, LeO (hibernacleref35_texts.f k a0 a1) (hibernacleref35_texts.f (k + 1) a0 a1) := by
  intro a0 a1 k
  have ih0 := hibernacleref35_texts.mono_l k
  unfold hibernacleref35_texts.f
  repeat' first
      | (with_reducible exact ih0 _ _ _)
      | (with_reducible exact LeO.refl _)
      | (with_reducible exact LeO.none _)
      | (with_reducible refine LeO.ite ?_ ?_)
      | (with_reducible refine LeO.bind ?_ (fun _ => ?_))
      | exact ih0 _ _ _
      | exact LeO.none _
      | refine LeO.ite ?_ ?_
      | refine LeO.bind ?_ (fun _ => ?_)
set_option maxHeartbeats 8000000 in
set_option maxRecDepth 100000 in
theorem hibernacleref35_texts.calls (k : Nat) (A0 : Option Addr) (c0 : Nat) (l0 : List ByteArray) (A1 : Option Addr) (c1 : Nat) (l1 : List ByteArray) (r : Bool) (w : World) (hr0 : Kd.C Kd.string w A0 l0.length l0) (hc0 : l0.length ≤ c0) (hr1 : Kd.C Kd.string w A1 l1.length l1) (hc1 : l1.length ≤ c1) (h : hibernacleref35_texts.f k l0 l1 = some r) :
    Calls Try.prog 27 #[.slice A0 l0.length c0, .slice A1 l1.length c1] w fun e w' => e = .returned (.bool r) ∧ Drawn0 w w' := by
  have HR0 := Aside0.mk hr0
  have HC0 := Aside0.mk hc0
  clear hr0 hc0
  have HR1 := Aside0.mk hr1
  have HC1 := Aside0.mk hc1
  clear hr1 hc1
  have H : (if (l0.length : Int) = (l1.length : Int) then (hibernacleref35_texts.l0 k l0 l1 0) else (some false)) = some r := h
  clear h
  by_cases c3 : (l0.length : Int) = (l1.length : Int)
  · rw [if_pos c3] at H
    have c3b0 : ((l0.length : Int) == (l1.length : Int)) = true := beq_iff_eq.mpr c3
    have c3b1 : ((l0.length : Int) != (l1.length : Int)) = false := bne_eq_false_iff_eq.mpr c3
    have c3b2 : (l0.length == l1.length) = true := by first | simpa using c3 | (simp at c3 ⊢; omega)
    clear c3
    have H' := Aside0.mk H
    clear H
    go_enter Try.func27, Try.ntmps27
    go_wp2
    repeat (go_quiet (fail); try go_wp2)
    go_loopg [5] k (fun kq v5 w' => ∃ (x5_1 : Int), v5 = .int .i64 x5_1 ∧ Aside0 (hibernacleref35_texts.l0 kq l0 l1 x5_1 = some r) ∧ Aside0 (kq ≤ k) ∧ Drawn0 w w')
    case atStart => exact ⟨(0), (by first | rfl | (simp; done) | (simp [*]; done)), H', ⟨Nat.le_refl _⟩, by repeat (first | exact Drawn0.refl _ | apply Drawn0.step)⟩
    case round =>
      clear H'
      try clear c1
      try clear c2
      try clear p2
      try clear c3
      try clear c3b0
      try clear c3b1
      try clear c3b2
      obtain ⟨x5_1, rfl, HA, HK1, ⟨m1, rfl⟩⟩ := hrel
      cases gk with
      | zero => exact absurd HA.out (by simp [hibernacleref35_texts.l0])
      | succ k1 =>
        have H := HA.out
        clear HA
        simp only [hibernacleref35_texts.l0] at H
        by_cases c4 : x5_1 < (l0.length : Int)
        · rw [if_pos c4] at H
          have c4b0 : decide (x5_1 < (l0.length : Int)) = true := decide_eq_true c4
          clear c4
          by_cases c5 : 0 ≤ x5_1
          · rw [if_pos c5] at H
            have c5b0 : decide (0 ≤ x5_1) = true := decide_eq_true c5
            clear c5
            by_cases c6 : x5_1 < (l1.length : Int)
            · rw [if_pos c6] at H
              have c6b0 : decide (x5_1 < (l1.length : Int)) = true := decide_eq_true c6
              clear c6
              by_cases c7 : (rdOf ByteArray.empty l0 x5_1).toList = (rdOf ByteArray.empty l1 x5_1).toList
              · rw [if_pos c7] at H
                have c7b0 : ((rdOf ByteArray.empty l0 x5_1).toList == (rdOf ByteArray.empty l1 x5_1).toList) = true := beq_iff_eq.mpr c7
                have c7b1 : ((rdOf ByteArray.empty l0 x5_1).toList != (rdOf ByteArray.empty l1 x5_1).toList) = false := bne_eq_false_iff_eq.mpr c7
                clear c7
                have H' := Aside0.mk H
                clear H
                have p231 : 0 ≤ (x5_1 : Int) := of_decide_eq_true (by first | (with_reducible assumption) | assumption)
                have q231 : x5_1 < (l0.length : Int) := of_decide_eq_true (by first | (with_reducible assumption) | assumption)
                obtain ⟨ad231, e231, hx231_0⟩ := Kd.at_string HR0.out x5_1 p231 q231
                cases e231
                replace p231 := eq_true p231
                replace q231 := eq_true q231
                have p232 : 0 ≤ (x5_1 : Int) := of_decide_eq_true (by first | (with_reducible assumption) | assumption)
                have q232 : x5_1 < (l1.length : Int) := of_decide_eq_true (by first | (with_reducible assumption) | assumption)
                obtain ⟨ad232, e232, hx232_0⟩ := Kd.at_string HR1.out x5_1 p232 q232
                cases e232
                replace p232 := eq_true p232
                replace q232 := eq_true q232
                go_wp2
                repeat (go_quiet (fail); try go_wp2)
                go_roundg k1
                case measure => have := HK1.out; omega
                case rel => exact ⟨(wrap64 (x5_1 + 1)), (by first | rfl | (simp; done) | (simp [*]; done)), H', ⟨by have := HK1.out; omega⟩, by repeat (first | exact Drawn0.refl _ | apply Drawn0.step)⟩
              · rw [if_neg c7] at H
                have c7b0 : ((rdOf ByteArray.empty l0 x5_1).toList == (rdOf ByteArray.empty l1 x5_1).toList) = false := beq_eq_false_iff_ne.mpr c7
                have c7b1 : ((rdOf ByteArray.empty l0 x5_1).toList != (rdOf ByteArray.empty l1 x5_1).toList) = true := bne_iff_ne.mpr c7
                obtain rfl := Option.some.inj H
                have p231 : 0 ≤ (x5_1 : Int) := of_decide_eq_true (by first | (with_reducible assumption) | assumption)
                have q231 : x5_1 < (l0.length : Int) := of_decide_eq_true (by first | (with_reducible assumption) | assumption)
                obtain ⟨ad231, e231, hx231_0⟩ := Kd.at_string HR0.out x5_1 p231 q231
                cases e231
                replace p231 := eq_true p231
                replace q231 := eq_true q231
                have p232 : 0 ≤ (x5_1 : Int) := of_decide_eq_true (by first | (with_reducible assumption) | assumption)
                have q232 : x5_1 < (l1.length : Int) := of_decide_eq_true (by first | (with_reducible assumption) | assumption)
                obtain ⟨ad232, e232, hx232_0⟩ := Kd.at_string HR1.out x5_1 p232 q232
                cases e232
                replace p232 := eq_true p232
                replace q232 := eq_true q232
                go_wp2
                repeat (go_quiet (fail); try go_wp2)
                go_ret
                exact ⟨by first | rfl | (simp; done) | (simp [*]; done), by repeat (first | exact Drawn0.refl _ | apply Drawn0.step)⟩
            · rw [if_neg c6] at H
              exact absurd H (by simp)
          · rw [if_neg c5] at H
            exact absurd H (by simp)
        · rw [if_neg c4] at H
          have c4b0 : decide (x5_1 < (l0.length : Int)) = false := decide_eq_false c4
          clear c4
          obtain rfl := Option.some.inj H
          go_wp2
          repeat (go_quiet (fail); try go_wp2)
          go_ret
          exact ⟨by first | rfl | (simp; done) | (simp [*]; done), by repeat (first | exact Drawn0.refl _ | apply Drawn0.step)⟩
  · rw [if_neg c3] at H
    have c3b0 : ((l0.length : Int) == (l1.length : Int)) = false := beq_eq_false_iff_ne.mpr c3
    have c3b1 : ((l0.length : Int) != (l1.length : Int)) = true := bne_iff_ne.mpr c3
    have c3b2 : (l0.length == l1.length) = false := by first | simpa using c3 | (simp at c3 ⊢; omega)
    obtain rfl := Option.some.inj H
    go_enter Try.func27, Try.ntmps27
    go_wp2
    repeat (go_quiet (fail); try go_wp2)
    go_ret
    exact ⟨by first | rfl | (simp; done) | (simp [*]; done), by repeat (first | exact Drawn0.refl _ | apply Drawn0.step)⟩

/-! ### hibernacleref35_Images: function 13 -/
def hibernacleref35_Images.f (k : Nat) (l0_0 : List ByteArray) (l0_1 : List ByteArray) (a0_2 : ByteArray) (l1_0 : List ByteArray) (l1_1 : List ByteArray) (a1_2 : ByteArray) : Option (Bool) := if a0_2.toList = a1_2.toList then ((hibernacleref35_texts.f k l0_0 l1_0).bind fun t235 => (if t235 = true then ((hibernacleref35_texts.f k l0_1 l1_1).bind fun t236 => (some t236)) else (some false))) else (some false)
theorem hibernacleref35_Images.mono : ∀ a0 a1 a2 a3 a4 a5 k, LeO (hibernacleref35_Images.f k a0 a1 a2 a3 a4 a5) (hibernacleref35_Images.f (k + 1) a0 a1 a2 a3 a4 a5) := by
  intro a0 a1 a2 a3 a4 a5 k
  unfold hibernacleref35_Images.f
  repeat' first
      | (with_reducible exact hibernacleref35_texts.mono _ _ _)
      | (with_reducible exact LeO.refl _)
      | (with_reducible exact LeO.none _)
      | (with_reducible refine LeO.ite ?_ ?_)
      | (with_reducible refine LeO.bind ?_ (fun _ => ?_))
      | exact hibernacleref35_texts.mono _ _ _
      | exact LeO.none _
      | refine LeO.ite ?_ ?_
      | refine LeO.bind ?_ (fun _ => ?_)
set_option maxHeartbeats 8000000 in
set_option maxRecDepth 100000 in
theorem hibernacleref35_Images.calls (k : Nat) (A0_0 : Option Addr) (c0_0 : Nat) (l0_0 : List ByteArray) (A0_1 : Option Addr) (c0_1 : Nat) (l0_1 : List ByteArray) (a0_2 : ByteArray) (A1_0 : Option Addr) (c1_0 : Nat) (l1_0 : List ByteArray) (A1_1 : Option Addr) (c1_1 : Nat) (l1_1 : List ByteArray) (a1_2 : ByteArray) (r : Bool) (w : World) (hr0_0 : Kd.C Kd.string w A0_0 l0_0.length l0_0) (hc0_0 : l0_0.length ≤ c0_0) (hr0_1 : Kd.C Kd.string w A0_1 l0_1.length l0_1) (hc0_1 : l0_1.length ≤ c0_1) (hr1_0 : Kd.C Kd.string w A1_0 l1_0.length l1_0) (hc1_0 : l1_0.length ≤ c1_0) (hr1_1 : Kd.C Kd.string w A1_1 l1_1.length l1_1) (hc1_1 : l1_1.length ≤ c1_1) (h : hibernacleref35_Images.f k l0_0 l0_1 a0_2 l1_0 l1_1 a1_2 = some r) :
    Calls Try.prog 13 #[.agg #[.slice A0_0 l0_0.length c0_0, .slice A0_1 l0_1.length c0_1, .string a0_2], .agg #[.slice A1_0 l1_0.length c1_0, .slice A1_1 l1_1.length c1_1, .string a1_2]] w fun e w' => e = .returned (.bool r) ∧ Below w.heap.size w w' := by
  have hu24 := Try.underlying24
  have HR0_0 := Aside0.mk hr0_0
  have HC0_0 := Aside0.mk hc0_0
  clear hr0_0 hc0_0
  have HR0_1 := Aside0.mk hr0_1
  have HC0_1 := Aside0.mk hc0_1
  clear hr0_1 hc0_1
  have HR1_0 := Aside0.mk hr1_0
  have HC1_0 := Aside0.mk hc1_0
  clear hr1_0 hc1_0
  have HR1_1 := Aside0.mk hr1_1
  have HC1_1 := Aside0.mk hc1_1
  clear hr1_1 hc1_1
  have HB := Aside0.mk (Below.refl w.heap.size w)
  have H : (if a0_2.toList = a1_2.toList then ((hibernacleref35_texts.f k l0_0 l1_0).bind fun t235 => (if t235 = true then ((hibernacleref35_texts.f k l0_1 l1_1).bind fun t236 => (some t236)) else (some false))) else (some false)) = some r := h
  clear h
  by_cases c3 : a0_2.toList = a1_2.toList
  · rw [if_pos c3] at H
    have c3b0 : (a0_2.toList == a1_2.toList) = true := beq_iff_eq.mpr c3
    have c3b1 : (a0_2.toList != a1_2.toList) = false := bne_eq_false_iff_eq.mpr c3
    clear c3
    replace H := Option.bind_eq_some_iff.mp H
    obtain ⟨t235, A40, H⟩ := H
    replace H : (if t235 = true then ((hibernacleref35_texts.f k l0_1 l1_1).bind fun t236 => (some t236)) else (some false)) = some r := H
    have A4 := Aside0.mk A40
    clear A40
    by_cases c5 : t235 = true
    · subst c5
      have H1 : ((hibernacleref35_texts.f k l0_1 l1_1).bind fun t236 => (some t236)) = some r := by rw [if_pos rfl] at H; exact H
      clear H
      have H := H1
      clear H1
      replace H := Option.bind_eq_some_iff.mp H
      obtain ⟨t236, A60, H⟩ := H
      replace H : (some t236) = some r := H
      have A6 := Aside0.mk A60
      clear A60
      obtain rfl := Option.some.inj H
      go_enter Try.func13, Try.ntmps13
      go_wp2_with (first | ((with_reducible refine gate_dst (N := 2) rfl ?_); refine box_event ?hg (N := 2) ?hd (cs := #[.slice A0_0 l0_0.length c0_0, .slice A0_1 l0_1.length c0_1, .string a0_2]) (t := 24) ?hr ?_; (case hd => rfl); (case hg => rfl); (case hr => first | (go_simp; done) | (go_simp; rfl)); intro gb233 hg w7 hbox hb; have n0_ := Aside0.mk (below_step (by repeat (first | (with_reducible first | exact HB.out | apply below_alloc | apply pw_below_drewN | apply below_drew1) | exact HB.out)) hb); have n1_ := Aside0.mk (hbox); have n2_ := Aside0.mk ((by rw [hg]; exact (below_size (by repeat (first | (with_reducible first | exact HB.out | apply below_alloc | apply pw_below_drewN | apply below_drew1) | exact HB.out))) : w.heap.size ≤ gb233)); have n3_ := Aside0.mk ((by rw [hg]; exact (below_size (by repeat (first | (with_reducible first | exact HB.out | apply below_alloc | apply pw_below_drewN | apply below_drew1) | exact HB.out))) : w.heap.size ≤ gb233)); clear HB; have HB := n0_; have BK233 := n1_; have GW233 := n2_; have GE233 := n3_; clear n0_ n1_ n2_ n3_; clear hb hbox hg) | ((with_reducible refine gate_dst (N := 3) rfl ?_); refine box_event ?hg (N := 3) ?hd (cs := #[.slice A1_0 l1_0.length c1_0, .slice A1_1 l1_1.length c1_1, .string a1_2]) (t := 24) ?hr ?_; (case hd => rfl); (case hg => rfl); (case hr => first | (go_simp; done) | (go_simp; rfl)); intro gb234 hg w8 hbox hb; have n0_ := Aside0.mk (blk_below (g := gb233) (o := .cells #[.slice A0_0 l0_0.length c0_0, .slice A0_1 l0_1.length c0_1, .string a0_2] 24 (0, 0)) (by (with_reducible repeat (first | refine blk_drewN ?_ _ | refine blk_drew ?_ | refine blk_alloc ?_ _)); exact BK233.out) hb); have n1_ := Aside0.mk (below_step (by repeat (first | (with_reducible first | exact HB.out | apply below_alloc | apply pw_below_drewN | apply below_drew1 | refine below_set ?_ GE233.out) | exact HB.out)) hb); have n2_ := Aside0.mk (hbox); have n3_ := Aside0.mk ((by rw [hg]; exact (below_size (by repeat (first | (with_reducible first | exact HB.out | apply below_alloc | apply pw_below_drewN | apply below_drew1 | refine below_set ?_ GE233.out) | exact HB.out))) : w.heap.size ≤ gb234)); have n4_ := Aside0.mk ((by rw [hg]; exact (below_size (by repeat (first | (with_reducible first | exact HB.out | apply below_alloc | apply pw_below_drewN | apply below_drew1 | refine below_set ?_ GE233.out) | exact HB.out))) : w.heap.size ≤ gb234)); have n5_ := Aside0.mk ((by rw [hg]; exact Nat.ne_of_lt (blk_lt (g := gb233) (o := .cells #[.slice A0_0 l0_0.length c0_0, .slice A0_1 l0_1.length c0_1, .string a0_2] 24 (0, 0)) (by (with_reducible repeat (first | refine blk_drewN ?_ _ | refine blk_drew ?_ | refine blk_alloc ?_ _)); exact BK233.out)) : gb233 ≠ gb234)); have n6_ := Aside0.mk ((by rw [hg]; exact Nat.ne_of_gt (blk_lt (g := gb233) (o := .cells #[.slice A0_0 l0_0.length c0_0, .slice A0_1 l0_1.length c0_1, .string a0_2] 24 (0, 0)) (by (with_reducible repeat (first | refine blk_drewN ?_ _ | refine blk_drew ?_ | refine blk_alloc ?_ _)); exact BK233.out)) : gb234 ≠ gb233)); clear BK233; clear HB; have BK233 := n0_; have HB := n1_; have BK234 := n2_; have GW234 := n3_; have GE234 := n4_; have NB233_234 := n5_; have NB234_233 := n6_; clear n0_ n1_ n2_ n3_ n4_ n5_ n6_; clear hb hbox hg; have hnb9 := NB233_234.out; have hnc9 := NB234_233.out; have hcz10_0 : w8.cell? ⟨gb233, 0, none⟩ = some (.slice A0_0 l0_0.length c0_0) := (blk_cell BK233.out 0).trans rfl; have hcz10_1 : w8.cell? ⟨gb233, 1, none⟩ = some (.slice A0_1 l0_1.length c0_1) := (blk_cell BK233.out 1).trans rfl; have hcz10_2 : w8.cell? ⟨gb233, 2, none⟩ = some (.string a0_2) := (blk_cell BK233.out 2).trans rfl; have hfz10_0 := blk_frozen BK233.out 0; have hfz10_1 := blk_frozen BK233.out 1; have hfz10_2 := blk_frozen BK233.out 2; have hcz11_0 : w8.cell? ⟨gb234, 0, none⟩ = some (.slice A1_0 l1_0.length c1_0) := (blk_cell BK234.out 0).trans rfl; have hcz11_1 : w8.cell? ⟨gb234, 1, none⟩ = some (.slice A1_1 l1_1.length c1_1) := (blk_cell BK234.out 1).trans rfl; have hcz11_2 : w8.cell? ⟨gb234, 2, none⟩ = some (.string a1_2) := (blk_cell BK234.out 2).trans rfl; have hfz11_0 := blk_frozen BK234.out 0; have hfz11_1 := blk_frozen BK234.out 1; have hfz11_2 := blk_frozen BK234.out 2) | (go_at_call 27; (with_reducible refine (hibernacleref35_texts.calls k _ _ l0_0 _ _ l1_0 true _ ?side1 ?side2 ?side3 ?side4 A4.out).mono ?_); (case side1 => repeat (first | exact (Kd.C_below HR0_0.out HB.out) | (with_reducible refine Kd.C_alloc ?_ _) | (with_reducible refine Kd.C_drewN ?_ _) | (with_reducible refine Kd.C_drew ?_))); (case side2 => exact HC0_0.out); (case side3 => repeat (first | exact (Kd.C_below HR1_0.out HB.out) | (with_reducible refine Kd.C_alloc ?_ _) | (with_reducible refine Kd.C_drewN ?_ _) | (with_reducible refine Kd.C_drew ?_))); (case side4 => exact HC1_0.out); rintro e w' ⟨rfl, ⟨nd, rfl⟩⟩) | (go_at_call 27; (with_reducible refine (hibernacleref35_texts.calls k _ _ l0_1 _ _ l1_1 t236 _ ?side1 ?side2 ?side3 ?side4 A6.out).mono ?_); (case side1 => repeat (first | exact (Kd.C_below HR0_1.out (by repeat (first | (with_reducible first | exact HB.out | apply below_alloc | apply pw_below_drewN | apply below_drew1 | refine below_set ?_ GE233.out | refine below_set ?_ GE234.out) | exact HB.out))) | (with_reducible refine Kd.C_alloc ?_ _) | (with_reducible refine Kd.C_drewN ?_ _) | (with_reducible refine Kd.C_drew ?_))); (case side2 => exact HC0_1.out); (case side3 => repeat (first | exact (Kd.C_below HR1_1.out (by repeat (first | (with_reducible first | exact HB.out | apply below_alloc | apply pw_below_drewN | apply below_drew1 | refine below_set ?_ GE233.out | refine below_set ?_ GE234.out) | exact HB.out))) | (with_reducible refine Kd.C_alloc ?_ _) | (with_reducible refine Kd.C_drewN ?_ _) | (with_reducible refine Kd.C_drew ?_))); (case side4 => exact HC1_1.out); rintro e w' ⟨rfl, ⟨nd, rfl⟩⟩))
      go_ret
      exact ⟨by first | rfl | (simp [errW_none, errW_some] <;> rfl) | (simp [*, errW_none, errW_some] <;> rfl), by repeat (first | (with_reducible first | exact HB.out | apply below_alloc | apply pw_below_drewN | apply below_drew1 | refine below_set ?_ GE233.out | refine below_set ?_ GE234.out) | exact HB.out)⟩
    · replace c5 := Bool.eq_false_iff.mpr c5
      subst c5
      have H1 : (some false) = some r := by rw [if_neg (show ¬ (false = true) by decide)] at H; exact H
      clear H
      have H := H1
      clear H1
      obtain rfl := Option.some.inj H
      go_enter Try.func13, Try.ntmps13
      go_wp2_with (first | ((with_reducible refine gate_dst (N := 2) rfl ?_); refine box_event ?hg (N := 2) ?hd (cs := #[.slice A0_0 l0_0.length c0_0, .slice A0_1 l0_1.length c0_1, .string a0_2]) (t := 24) ?hr ?_; (case hd => rfl); (case hg => rfl); (case hr => first | (go_simp; done) | (go_simp; rfl)); intro gb233 hg w12 hbox hb; have n0_ := Aside0.mk (below_step (by repeat (first | (with_reducible first | exact HB.out | apply below_alloc | apply pw_below_drewN | apply below_drew1) | exact HB.out)) hb); have n1_ := Aside0.mk (hbox); have n2_ := Aside0.mk ((by rw [hg]; exact (below_size (by repeat (first | (with_reducible first | exact HB.out | apply below_alloc | apply pw_below_drewN | apply below_drew1) | exact HB.out))) : w.heap.size ≤ gb233)); have n3_ := Aside0.mk ((by rw [hg]; exact (below_size (by repeat (first | (with_reducible first | exact HB.out | apply below_alloc | apply pw_below_drewN | apply below_drew1) | exact HB.out))) : w.heap.size ≤ gb233)); clear HB; have HB := n0_; have BK233 := n1_; have GW233 := n2_; have GE233 := n3_; clear n0_ n1_ n2_ n3_; clear hb hbox hg) | ((with_reducible refine gate_dst (N := 3) rfl ?_); refine box_event ?hg (N := 3) ?hd (cs := #[.slice A1_0 l1_0.length c1_0, .slice A1_1 l1_1.length c1_1, .string a1_2]) (t := 24) ?hr ?_; (case hd => rfl); (case hg => rfl); (case hr => first | (go_simp; done) | (go_simp; rfl)); intro gb234 hg w13 hbox hb; have n0_ := Aside0.mk (blk_below (g := gb233) (o := .cells #[.slice A0_0 l0_0.length c0_0, .slice A0_1 l0_1.length c0_1, .string a0_2] 24 (0, 0)) (by (with_reducible repeat (first | refine blk_drewN ?_ _ | refine blk_drew ?_ | refine blk_alloc ?_ _)); exact BK233.out) hb); have n1_ := Aside0.mk (below_step (by repeat (first | (with_reducible first | exact HB.out | apply below_alloc | apply pw_below_drewN | apply below_drew1 | refine below_set ?_ GE233.out) | exact HB.out)) hb); have n2_ := Aside0.mk (hbox); have n3_ := Aside0.mk ((by rw [hg]; exact (below_size (by repeat (first | (with_reducible first | exact HB.out | apply below_alloc | apply pw_below_drewN | apply below_drew1 | refine below_set ?_ GE233.out) | exact HB.out))) : w.heap.size ≤ gb234)); have n4_ := Aside0.mk ((by rw [hg]; exact (below_size (by repeat (first | (with_reducible first | exact HB.out | apply below_alloc | apply pw_below_drewN | apply below_drew1 | refine below_set ?_ GE233.out) | exact HB.out))) : w.heap.size ≤ gb234)); have n5_ := Aside0.mk ((by rw [hg]; exact Nat.ne_of_lt (blk_lt (g := gb233) (o := .cells #[.slice A0_0 l0_0.length c0_0, .slice A0_1 l0_1.length c0_1, .string a0_2] 24 (0, 0)) (by (with_reducible repeat (first | refine blk_drewN ?_ _ | refine blk_drew ?_ | refine blk_alloc ?_ _)); exact BK233.out)) : gb233 ≠ gb234)); have n6_ := Aside0.mk ((by rw [hg]; exact Nat.ne_of_gt (blk_lt (g := gb233) (o := .cells #[.slice A0_0 l0_0.length c0_0, .slice A0_1 l0_1.length c0_1, .string a0_2] 24 (0, 0)) (by (with_reducible repeat (first | refine blk_drewN ?_ _ | refine blk_drew ?_ | refine blk_alloc ?_ _)); exact BK233.out)) : gb234 ≠ gb233)); clear BK233; clear HB; have BK233 := n0_; have HB := n1_; have BK234 := n2_; have GW234 := n3_; have GE234 := n4_; have NB233_234 := n5_; have NB234_233 := n6_; clear n0_ n1_ n2_ n3_ n4_ n5_ n6_; clear hb hbox hg; have hnb14 := NB233_234.out; have hnc14 := NB234_233.out; have hcz15_0 : w13.cell? ⟨gb233, 0, none⟩ = some (.slice A0_0 l0_0.length c0_0) := (blk_cell BK233.out 0).trans rfl; have hcz15_1 : w13.cell? ⟨gb233, 1, none⟩ = some (.slice A0_1 l0_1.length c0_1) := (blk_cell BK233.out 1).trans rfl; have hcz15_2 : w13.cell? ⟨gb233, 2, none⟩ = some (.string a0_2) := (blk_cell BK233.out 2).trans rfl; have hfz15_0 := blk_frozen BK233.out 0; have hfz15_1 := blk_frozen BK233.out 1; have hfz15_2 := blk_frozen BK233.out 2; have hcz16_0 : w13.cell? ⟨gb234, 0, none⟩ = some (.slice A1_0 l1_0.length c1_0) := (blk_cell BK234.out 0).trans rfl; have hcz16_1 : w13.cell? ⟨gb234, 1, none⟩ = some (.slice A1_1 l1_1.length c1_1) := (blk_cell BK234.out 1).trans rfl; have hcz16_2 : w13.cell? ⟨gb234, 2, none⟩ = some (.string a1_2) := (blk_cell BK234.out 2).trans rfl; have hfz16_0 := blk_frozen BK234.out 0; have hfz16_1 := blk_frozen BK234.out 1; have hfz16_2 := blk_frozen BK234.out 2) | (go_at_call 27; (with_reducible refine (hibernacleref35_texts.calls k _ _ l0_0 _ _ l1_0 false _ ?side1 ?side2 ?side3 ?side4 A4.out).mono ?_); (case side1 => repeat (first | exact (Kd.C_below HR0_0.out HB.out) | (with_reducible refine Kd.C_alloc ?_ _) | (with_reducible refine Kd.C_drewN ?_ _) | (with_reducible refine Kd.C_drew ?_))); (case side2 => exact HC0_0.out); (case side3 => repeat (first | exact (Kd.C_below HR1_0.out HB.out) | (with_reducible refine Kd.C_alloc ?_ _) | (with_reducible refine Kd.C_drewN ?_ _) | (with_reducible refine Kd.C_drew ?_))); (case side4 => exact HC1_0.out); rintro e w' ⟨rfl, ⟨nd, rfl⟩⟩))
      go_ret
      exact ⟨by first | rfl | (simp [errW_none, errW_some] <;> rfl) | (simp [*, errW_none, errW_some] <;> rfl), by repeat (first | (with_reducible first | exact HB.out | apply below_alloc | apply pw_below_drewN | apply below_drew1 | refine below_set ?_ GE233.out | refine below_set ?_ GE234.out) | exact HB.out)⟩
  · rw [if_neg c3] at H
    have c3b0 : (a0_2.toList == a1_2.toList) = false := beq_eq_false_iff_ne.mpr c3
    have c3b1 : (a0_2.toList != a1_2.toList) = true := bne_iff_ne.mpr c3
    obtain rfl := Option.some.inj H
    go_enter Try.func13, Try.ntmps13
    go_wp2_with (first | ((with_reducible refine gate_dst (N := 2) rfl ?_); refine box_event ?hg (N := 2) ?hd (cs := #[.slice A0_0 l0_0.length c0_0, .slice A0_1 l0_1.length c0_1, .string a0_2]) (t := 24) ?hr ?_; (case hd => rfl); (case hg => rfl); (case hr => first | (go_simp; done) | (go_simp; rfl)); intro gb233 hg w17 hbox hb; have n0_ := Aside0.mk (below_step (by repeat (first | (with_reducible first | exact HB.out | apply below_alloc | apply pw_below_drewN | apply below_drew1) | exact HB.out)) hb); have n1_ := Aside0.mk (hbox); have n2_ := Aside0.mk ((by rw [hg]; exact (below_size (by repeat (first | (with_reducible first | exact HB.out | apply below_alloc | apply pw_below_drewN | apply below_drew1) | exact HB.out))) : w.heap.size ≤ gb233)); have n3_ := Aside0.mk ((by rw [hg]; exact (below_size (by repeat (first | (with_reducible first | exact HB.out | apply below_alloc | apply pw_below_drewN | apply below_drew1) | exact HB.out))) : w.heap.size ≤ gb233)); clear HB; have HB := n0_; have BK233 := n1_; have GW233 := n2_; have GE233 := n3_; clear n0_ n1_ n2_ n3_; clear hb hbox hg) | ((with_reducible refine gate_dst (N := 3) rfl ?_); refine box_event ?hg (N := 3) ?hd (cs := #[.slice A1_0 l1_0.length c1_0, .slice A1_1 l1_1.length c1_1, .string a1_2]) (t := 24) ?hr ?_; (case hd => rfl); (case hg => rfl); (case hr => first | (go_simp; done) | (go_simp; rfl)); intro gb234 hg w18 hbox hb; have n0_ := Aside0.mk (blk_below (g := gb233) (o := .cells #[.slice A0_0 l0_0.length c0_0, .slice A0_1 l0_1.length c0_1, .string a0_2] 24 (0, 0)) (by (with_reducible repeat (first | refine blk_drewN ?_ _ | refine blk_drew ?_ | refine blk_alloc ?_ _)); exact BK233.out) hb); have n1_ := Aside0.mk (below_step (by repeat (first | (with_reducible first | exact HB.out | apply below_alloc | apply pw_below_drewN | apply below_drew1 | refine below_set ?_ GE233.out) | exact HB.out)) hb); have n2_ := Aside0.mk (hbox); have n3_ := Aside0.mk ((by rw [hg]; exact (below_size (by repeat (first | (with_reducible first | exact HB.out | apply below_alloc | apply pw_below_drewN | apply below_drew1 | refine below_set ?_ GE233.out) | exact HB.out))) : w.heap.size ≤ gb234)); have n4_ := Aside0.mk ((by rw [hg]; exact (below_size (by repeat (first | (with_reducible first | exact HB.out | apply below_alloc | apply pw_below_drewN | apply below_drew1 | refine below_set ?_ GE233.out) | exact HB.out))) : w.heap.size ≤ gb234)); have n5_ := Aside0.mk ((by rw [hg]; exact Nat.ne_of_lt (blk_lt (g := gb233) (o := .cells #[.slice A0_0 l0_0.length c0_0, .slice A0_1 l0_1.length c0_1, .string a0_2] 24 (0, 0)) (by (with_reducible repeat (first | refine blk_drewN ?_ _ | refine blk_drew ?_ | refine blk_alloc ?_ _)); exact BK233.out)) : gb233 ≠ gb234)); have n6_ := Aside0.mk ((by rw [hg]; exact Nat.ne_of_gt (blk_lt (g := gb233) (o := .cells #[.slice A0_0 l0_0.length c0_0, .slice A0_1 l0_1.length c0_1, .string a0_2] 24 (0, 0)) (by (with_reducible repeat (first | refine blk_drewN ?_ _ | refine blk_drew ?_ | refine blk_alloc ?_ _)); exact BK233.out)) : gb234 ≠ gb233)); clear BK233; clear HB; have BK233 := n0_; have HB := n1_; have BK234 := n2_; have GW234 := n3_; have GE234 := n4_; have NB233_234 := n5_; have NB234_233 := n6_; clear n0_ n1_ n2_ n3_ n4_ n5_ n6_; clear hb hbox hg; have hnb19 := NB233_234.out; have hnc19 := NB234_233.out; have hcz20_0 : w18.cell? ⟨gb233, 0, none⟩ = some (.slice A0_0 l0_0.length c0_0) := (blk_cell BK233.out 0).trans rfl; have hcz20_1 : w18.cell? ⟨gb233, 1, none⟩ = some (.slice A0_1 l0_1.length c0_1) := (blk_cell BK233.out 1).trans rfl; have hcz20_2 : w18.cell? ⟨gb233, 2, none⟩ = some (.string a0_2) := (blk_cell BK233.out 2).trans rfl; have hfz20_0 := blk_frozen BK233.out 0; have hfz20_1 := blk_frozen BK233.out 1; have hfz20_2 := blk_frozen BK233.out 2; have hcz21_0 : w18.cell? ⟨gb234, 0, none⟩ = some (.slice A1_0 l1_0.length c1_0) := (blk_cell BK234.out 0).trans rfl; have hcz21_1 : w18.cell? ⟨gb234, 1, none⟩ = some (.slice A1_1 l1_1.length c1_1) := (blk_cell BK234.out 1).trans rfl; have hcz21_2 : w18.cell? ⟨gb234, 2, none⟩ = some (.string a1_2) := (blk_cell BK234.out 2).trans rfl; have hfz21_0 := blk_frozen BK234.out 0; have hfz21_1 := blk_frozen BK234.out 1; have hfz21_2 := blk_frozen BK234.out 2))
    go_ret
    exact ⟨by first | rfl | (simp [errW_none, errW_some] <;> rfl) | (simp [*, errW_none, errW_some] <;> rfl), by repeat (first | (with_reducible first | exact HB.out | apply below_alloc | apply pw_below_drewN | apply below_drew1 | refine below_set ?_ GE233.out | refine below_set ?_ GE234.out) | exact HB.out)⟩

end Go.Proofs.Ytoljjgabgdifbaa.H


namespace Go.Proofs.Ytoljjgabgdifbaa.H
open Go.RowKit Go.Proofs.YtoljjgabgdifbaaW.PrintWords Go.Proofs.YtoljjgabgdifbaaW.PrintLast Go.Proofs.YtoljjgabgdifbaaW.PrintMore
set_option linter.unusedVariables false
set_option linter.unusedSimpArgs false

set_option maxRecDepth 100000 in
set_option maxHeartbeats 4000000 in
theorem rApart_calls (A : Option Addr) (c : Nat) (l : List ByteArray) (w : World) (hA : Kd.C Kd.string w A l.length l) (hc : l.length ≤ c) (hl : l.length ≤ 1048576) (hp : 0 < l.length) (hs : ∀ j, (at_ l j).size ≤ 140737488355328) :
    Calls Try.prog 29 #[.slice A l.length c] w fun e w' => e = .returned (.bool (aptB l)) ∧ Below w.heap.size w w' := by
  have HA := Aside0.mk hA
  have HL := Aside0.mk hl
  have HP := Aside0.mk hp
  have HS := Aside0.mk hs
  clear hA hl hs hp
  have LS : (l.map sumL).length = l.length := List.length_map ..
  obtain ⟨S, hS⟩ : ∃ S, S = l.map sumL := ⟨_, rfl⟩
  have LS : Aside0 (S.length = l.length) := ⟨by rw [hS]; exact LS⟩
  have HSS := Aside0.mk hS
  clear hS
  go_enter Try.func29, Try.ntmps29
  go_wp2_with fail
  go_loopg [3, 4] l.length (fun gk v3 v4 wl => ∃ (i : Nat), v4 = .int .i64 i ∧ Aside0 (i + gk = l.length) ∧ Aside0 (Kd.R kD 29 wl w.heap.size (fun _ => True) v3 (S.take i)) ∧ Aside0 (Below w.heap.size w wl))
  case atStart => exact ⟨0, rfl, ⟨by omega⟩, ⟨Kd.R_nil _ _ _ _ _⟩, ⟨Below.refl _ _⟩⟩
  case round =>
    obtain ⟨i, rfl, hi, HR, HB⟩ := hrel
    by_cases hlt : i < l.length
    · have lt1 := eq_true (show (i : Int) < (l.length : Int) by omega)
      have lt0 := eq_true (show (0 : Int) ≤ (i : Int) by omega)
      obtain ⟨ada, eA, xi⟩ := Kd.at_string (Kd.C_below HA.out HB.out) (i : Int) (by omega) (by omega)
      cases eA
      rw [rdOf_at, Int.toNat_natCast] at xi
      have ww : IntKind.i64.wrap ((i : Int) + 1) = (i : Int) + 1 := IntWalk.i64_in _ (by have := HL.out; omega)
      obtain ⟨x0, x1, x2, x3, x4, x5, x6, x7, x8, x9, x10, x11, x12, x13, x14, x15, x16, x17, x18, x19, x20, x21, x22, x23, x24, x25, x26, x27, x28, x29, x30, x31, eL⟩ := list32 (sumL (at_ l i)) (sumL_len _)
      have OC : Aside0 (∀ W, Calls Try.prog 40 #[.string (at_ l i)] W fun e w' => e = .returned (.agg #[.int .u8 x0, .int .u8 x1, .int .u8 x2, .int .u8 x3, .int .u8 x4, .int .u8 x5, .int .u8 x6, .int .u8 x7, .int .u8 x8, .int .u8 x9, .int .u8 x10, .int .u8 x11, .int .u8 x12, .int .u8 x13, .int .u8 x14, .int .u8 x15, .int .u8 x16, .int .u8 x17, .int .u8 x18, .int .u8 x19, .int .u8 x20, .int .u8 x21, .int .u8 x22, .int .u8 x23, .int .u8 x24, .int .u8 x25, .int .u8 x26, .int .u8 x27, .int .u8 x28, .int .u8 x29, .int .u8 x30, .int .u8 x31]) ∧ Below W.heap.size W w') := ⟨fun W => by
        have z := one_calls (at_ l i) W (HS.out i)
        rw [eL] at z
        exact z⟩
      have ES : Aside0 (S.take (i + 1) = S.take i ++ [[x0, x1, x2, x3, x4, x5, x6, x7, x8, x9, x10, x11, x12, x13, x14, x15, x16, x17, x18, x19, x20, x21, x22, x23, x24, x25, x26, x27, x28, x29, x30, x31]]) := ⟨by
        have : S[i]? = some [x0, x1, x2, x3, x4, x5, x6, x7, x8, x9, x10, x11, x12, x13, x14, x15, x16, x17, x18, x19, x20, x21, x22, x23, x24, x25, x26, x27, x28, x29, x30, x31] := by rw [HSS.out, List.getElem?_map, List.getElem?_eq_getElem hlt, ← eL]; simp [at_, List.getD_eq_getElem?_getD, List.getElem?_eq_getElem hlt]
        rw [List.take_add_one, this]
        rfl⟩
      clear eL
      go_wp2_with (first | ((with_reducible refine (OC.out _).mono ?_); rintro e w3 ⟨rfl, hb⟩; have HR3 := Aside0.mk (Kd.R_below HR.out hb); have HB3 := Aside0.mk (below_then HB.out HB.out.size hb); clear hb HR HB) | ((with_reducible refine gate_builtin (b := .append) (xs := #[.tmp 11, .tmp 17]) rfl ?_); at_builtin; refine Kd.R_append kD (w0 := w) w.heap.size rfl (.tmp 11) (.tmp 17) 64 29 (.agg #[.int .u8 0, .int .u8 0, .int .u8 0, .int .u8 0, .int .u8 0, .int .u8 0, .int .u8 0, .int .u8 0, .int .u8 0, .int .u8 0, .int .u8 0, .int .u8 0, .int .u8 0, .int .u8 0, .int .u8 0, .int .u8 0, .int .u8 0, .int .u8 0, .int .u8 0, .int .u8 0, .int .u8 0, .int .u8 0, .int .u8 0, .int .u8 0, .int .u8 0, .int .u8 0, .int .u8 0, .int .u8 0, .int .u8 0, .int .u8 0, .int .u8 0, .int .u8 0]) 32 rfl Try.underlying64 info29 rfl (by decide) (by omega) _ (S.take i) [x0, x1, x2, x3, x4, x5, x6, x7, x8, x9, x10, x11, x12, x13, x14, x15, x16, x17, x18, x19, x20, x21, x22, x23, x24, x25, x26, x27, x28, x29, x30, x31] [.int .u8 x0, .int .u8 x1, .int .u8 x2, .int .u8 x3, .int .u8 x4, .int .u8 x5, .int .u8 x6, .int .u8 x7, .int .u8 x8, .int .u8 x9, .int .u8 x10, .int .u8 x11, .int .u8 x12, .int .u8 x13, .int .u8 x14, .int .u8 x15, .int .u8 x16, .int .u8 x17, .int .u8 x18, .int .u8 x19, .int .u8 x20, .int .u8 x21, .int .u8 x22, .int .u8 x23, .int .u8 x24, .int .u8 x25, .int .u8 x26, .int .u8 x27, .int .u8 x28, .int .u8 x29, .int .u8 x30, .int .u8 x31] (fun _ => True) (fun _ => False) rfl rfl ?aP (fun _ hk => hk.elim) ?aF ?aO ?aB ?aS ?aL ?_; (case aP => exact ⟨rfl, rfl⟩); (case aB => exact HB3.out); (case aF => exact fun _ _ => trivial); (case aO => exact HR3.out); (case aS => exact HB3.out.size); (case aL => have := HL.out; have := LS.out; rw [List.length_take]; omega); intro v1 w4 ho hb hg hat; rw [← ES.out] at ho; have HR4 := Aside0.mk ho; have HB4 := Aside0.mk hb; clear ho hb hg hat HR3 HB3))
      go_roundg (l.length - i - 1)
      case measure => have := hi.out; omega
      case rel => exact ⟨i + 1, by push_cast; rfl, ⟨by have := hi.out; omega⟩, HR4, HB4⟩
    · obtain rfl : i = l.length := by have := hi.out; omega
      have hR := HR.out
      rw [List.take_of_length_le (by rw [LS.out]; exact Nat.le_refl _), HSS.out] at hR
      obtain ⟨inner, ho⟩ := Kd.R_own hR
      have hrd := Kd.R_reads hR
      obtain ⟨A', c', hv, hle, hC⟩ := hrd
      rcases ho.2 with ⟨h0, _⟩ | ⟨g, cap, cur, hv2, hg, r⟩
      · have := HP.out
        rw [hv] at h0
        simp only [Value.slice.injEq, List.length_map] at h0
        omega
      · rw [hv2] at hv
        cases hv
        subst hv2
        have UC := Aside0.mk (runlike_calls A c l g 0 c' _ (Kd.C_below HA.out HB.out) hC HL.out)
        have lf := eq_false (show ¬ (l.length : Int) < (l.length : Int) by omega)
        try rw [List.length_map]
        go_wp2_with fail
        refine UC.out.mono ?_
        rintro e w5 ⟨rfl, hd⟩
        go_wp2_with fail
        go_ret
        obtain ⟨n, rfl⟩ := hd
        exact ⟨rfl, pw_below_drewN HB.out n⟩
end Go.Proofs.Ytoljjgabgdifbaa.H

