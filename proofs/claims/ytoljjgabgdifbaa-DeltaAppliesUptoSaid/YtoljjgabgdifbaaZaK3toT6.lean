/- Layer 35: two deltas joined, by the program and by the document, whatever comes of it. Layer 35's statements: is a delta more than is gone through? Layer 35's statement DeltaTold: the walk. -/
import Derived.Test.YtoljjgabgdifbaaZaJ4toJ5
import Derived.Test.YtoljjgabgdifbaaZaK0toK1
import Derived.Test.YtoljjgabgdifbaaZaJ2toJ6
import Derived.Test.YtoljjgabgdifbaaZaH13toC1
import Derived.Test.YtoljjgabgdifbaaZaG4toJ1
import Derived.Test.YtoljjgabgdifbaaZaT2toT5
import Derived.Test.YtoljjgabgdifbaaZaR3toH11

namespace Go.Proofs.Ytoljjgabgdifbaa.H
open Go.RowKit Go.Proofs.YtoljjgabgdifbaaW.PrintWords Go.Proofs.YtoljjgabgdifbaaW.PrintLast Go.Proofs.YtoljjgabgdifbaaW.PrintMore
set_option linter.unusedVariables false
set_option linter.unusedSimpArgs false

theorem wpList_build0 {ops : Array Oper} {rest : List Oper} {op : Oper} {a : Act} {w : World} {Q : Exit → Act → World → Prop} (hw : Region.wanted op (yielded ops a.tmps) = true) (t : TypeId) (parts : Array (Nat × Operand)) (ho : op.op = .build t parts)
    (cs : Array Value) (hb : Try.prog.built t (parts.map fun (i, x) => (i, a.eval x)).toList = some cs) (h : wpList Try.prog ops Q rest (a.put op.dst (.agg cs)) w) : wpList Try.prog ops Q (op :: rest) a w :=
  wpList_step fun K hK => by
    rw [if_pos hw]
    unfold Oper.wp execOp
    simp only [ho, Sem.run_bind, run_build w t _ cs hb, Result.andThen_ok]
    exact hK _ _ h
set_option maxRecDepth 100000 in
set_option maxHeartbeats 8000000 in
theorem join_none (L M P Q : List Int) (hL : Dig L) (hM : Dig M) (hP : Dig P) (hQ : Dig Q) (U1 : Option Addr) (u1 : Nat) (r1 : List S36) (U2 : Option Addr) (u2 : Nat) (r2 : List S36) (s : ByteArray) (V1 : Option Addr) (v1 : Nat) (q1 : List S36) (V2 : Option Addr) (v2 : Nat) (q2 : List S36) (z : ByteArray) (w : World)
    (hU1 : Kd.C k36 w U1 r1.length r1) (hu1 : r1.length ≤ u1) (hU2 : Kd.C k36 w U2 r2.length r2) (hu2 : r2.length ≤ u2) (hV1 : Kd.C k36 w V1 q1.length q1) (hv1 : q1.length ≤ v1) (hV2 : Kd.C k36 w V2 q2.length q2) (hv2 : q2.length ≤ v2)
    (m1 : r1.length ≤ 500000) (m2 : r2.length ≤ 500000) (n1 : q1.length ≤ 500000) (n2 : q2.length ≤ 500000)
    (hc : P ≠ emptySum) (hd : P ≠ M) :
    Calls Try.prog 19 #[.agg (dArr L (.slice U1 r1.length u1) (.slice U2 r2.length u2) s M), .agg (dArr P (.slice V1 q1.length v1) (.slice V2 q2.length v2) z Q)] w fun e w' => e = .returned (.tuple #[.agg (dArr (outL [] 0) (.slice none 0 0) (.slice none 0 0) ⟨#[]⟩ (outL [] 0)), .int .i64 23]) ∧ Below w.heap.size w w' := by
  have BX := ((Blk.new w 32 (dArr L (.slice U1 r1.length u1) (.slice U2 r2.length u2) s M)).alloc (.cells (dArr P (.slice V1 q1.length v1) (.slice V2 q2.length v2) z Q) 32)).alloc (.cells (dArr (outL [] 0) (.slice none 0 0) (.slice none 0 0) ⟨#[]⟩ (outL [] 0)) 32)
  have BY := (Blk.new (w.alloc (.cells (dArr L (.slice U1 r1.length u1) (.slice U2 r2.length u2) s M) 32)) 32 (dArr P (.slice V1 q1.length v1) (.slice V2 q2.length v2) z Q)).alloc (.cells (dArr (outL [] 0) (.slice none 0 0) (.slice none 0 0) ⟨#[]⟩ (outL [] 0)) 32)
  have BR := Blk.new ((w.alloc (.cells (dArr L (.slice U1 r1.length u1) (.slice U2 r2.length u2) s M) 32)).alloc (.cells (dArr P (.slice V1 q1.length v1) (.slice V2 q2.length v2) z Q) 32)) 32 (dArr (outL [] 0) (.slice none 0 0) (.slice none 0 0) ⟨#[]⟩ (outL [] 0))
  have W0 := (((Below.refl w.heap.size w).alloc (Nat.le_refl _) (.cells (dArr L (.slice U1 r1.length u1) (.slice U2 r2.length u2) s M) 32)).alloc (by simp) (.cells (dArr P (.slice V1 q1.length v1) (.slice V2 q2.length v2) z Q) 32)).alloc (by simp; omega) (.cells (dArr (outL [] 0) (.slice none 0 0) (.slice none 0 0) ⟨#[]⟩ (outL [] 0)) 32)
  rw [sz] at BY
  rw [sz, sz] at BR
  generalize hw0 : (((w.alloc (.cells (dArr L (.slice U1 r1.length u1) (.slice U2 r2.length u2) s M) 32)).alloc (.cells (dArr P (.slice V1 q1.length v1) (.slice V2 q2.length v2) z Q) 32)).alloc (.cells (dArr (outL [] 0) (.slice none 0 0) (.slice none 0 0) ⟨#[]⟩ (outL [] 0)) 32)) = w0 at BX BY BR W0
  have HW0 := Aside0.mk hw0
  clear hw0
  have qe := eq_dig hP (imgSum_dig [] [] ⟨#[]⟩)
  rw [show imgSum [] [] ⟨#[]⟩ = emptySum from rfl] at qe
  have qm := eq_dig hP hM
  obtain ⟨E, hE⟩ : ∃ E, E = emptySum := ⟨_, rfl⟩
  have nothing_calls := fun W => nothing_calls W
  rw [← hE] at qe nothing_calls hc
  have l1 := Aside0.mk (run_loadAt_mid (P := Try.prog) w0 (w.heap.size + 1) 0 29 _ _ (dArr_range w0 _ P Q hP.len hQ.len _ _ z BY).1 Try.underlying29 rfl (by rw [nums_length, hP.len]; kernel_rfl))
  have l2 : ∀ W, Below w0.heap.size w0 W → (Instr.loadAt 29 (.pointer (some ⟨w.heap.size, 35, none⟩))).run Try.prog W = .ok (.agg (nums .u8 M).toArray) W := fun W hb => run_loadAt_mid (P := Try.prog) W w.heap.size 35 29 _ _ (dArr_range W _ L M hL.len hM.len _ _ s (BX.below hb BX.lt)).2 Try.underlying29 rfl (by rw [nums_length, hM.len]; kernel_rfl)
  have l2 := Aside0.mk l2
  have BX := Aside0.mk BX
  have BY := Aside0.mk BY
  have BR := Aside0.mk BR
  have W0 := Aside0.mk W0
  have SX : Aside0 ((dArr L (.slice U1 r1.length u1) (.slice U2 r2.length u2) s M).size = 67) := ⟨dArr_size hL.len hM.len _ _ _⟩
  have SYY : Aside0 ((dArr P (.slice V1 q1.length v1) (.slice V2 q2.length v2) z Q).size = 67) := ⟨dArr_size hP.len hQ.len _ _ _⟩
  obtain ⟨x32, x33, x34⟩ := dArr_mid L M hL.len (.slice U1 r1.length u1) (.slice U2 r2.length u2) s
  obtain ⟨y32, y33, y34⟩ := dArr_mid P Q hP.len (.slice V1 q1.length v1) (.slice V2 q2.length v2) z
  have X32 := Aside0.mk x32
  have X33 := Aside0.mk x33
  have Y32 := Aside0.mk y32
  have Y33 := Aside0.mk y33
  have Y34 := Aside0.mk y34
  have hL := Aside0.mk hL
  have hM := Aside0.mk hM
  have hP := Aside0.mk hP
  have hQ := Aside0.mk hQ
  clear x32 x33 x34 y32 y33 y34
  rw [decide_eq_false hc] at qe
  rw [decide_eq_false hd] at qm
  clear hc hE hd
  go_enter Try.func19, Try.ntmps19
  go_wp2_with (first | (rw [show (((w.alloc (.cells (dArr L (.slice U1 r1.length u1) (.slice U2 r2.length u2) s M) 32)).alloc (.cells (dArr P (.slice V1 q1.length v1) (.slice V2 q2.length v2) z Q) 32)).alloc (.cells Try.zeroCells32 32)) = w0 from (by rw [z32]; exact HW0.out)]) | (refine wpList_load_midg (by rfl) 29 (.tmp 6) rfl (w.heap.size + 1) 0 rfl _ l1.out ?_) | ((with_reducible refine (nothing_calls _).mono ?_); rintro e w2 ⟨rfl, hb⟩; have BX2 := Aside0.mk (BX.out.below hb BX.out.lt); have BY2 := Aside0.mk (BY.out.below hb BY.out.lt); have BR2 := Aside0.mk (BR.out.below hb BR.out.lt); have W2 := Aside0.mk (below_then W0.out W0.out.size hb); have BB := Aside0.mk hb; clear hb) | (refine wpList_load_midg (by rfl) 29 (.tmp 14) rfl w.heap.size 35 rfl _ (l2.out _ BB.out) ?_) | (refine wpList_build0 (by rfl) 32 #[] rfl (dArr (outL [] 0) (.slice none 0 0) (.slice none 0 0) ⟨#[]⟩ (outL [] 0)) (by kernel_rfl) ?_) | (refine wpList_store_row rfl 32 (.tmp 4) (.tmp 34) rfl (w.heap.size + 1 + 1) _ rfl rfl 32 _ BR2.out (by kernel_rfl) (by kernel_rfl) (by kernel_rfl) ?_))
  exact bodyPost_ret (results_row_tmp (p := 4) (u := 5) (ty := 32) rfl _ _ (w.heap.size + 1 + 1) 32 _ _ rfl (BR2.out.setRow_ _) Try.underlying32 rfl (by kernel_rfl)) rfl ⟨rfl, below_setRow' W2.out (by omega) _⟩
set_option maxRecDepth 100000 in
set_option maxHeartbeats 8000000 in
theorem rjoin_empty (L M P Q : List Int) (hL : Dig L) (hM : Dig M) (hP : Dig P) (hQ : Dig Q) (U1 : Option Addr) (u1 : Nat) (r1 : List S36) (U2 : Option Addr) (u2 : Nat) (r2 : List S36) (s : ByteArray) (V1 : Option Addr) (v1 : Nat) (q1 : List S36) (V2 : Option Addr) (v2 : Nat) (q2 : List S36) (z : ByteArray) (w : World)
    (hU1 : Kd.C k36 w U1 r1.length r1) (hu1 : r1.length ≤ u1) (hU2 : Kd.C k36 w U2 r2.length r2) (hu2 : r2.length ≤ u2) (hV1 : Kd.C k36 w V1 q1.length q1) (hv1 : q1.length ≤ v1) (hV2 : Kd.C k36 w V2 q2.length q2) (hv2 : q2.length ≤ v2)
    (m1 : r1.length ≤ 500000) (m2 : r2.length ≤ 500000) (n1 : q1.length ≤ 500000) (n2 : q2.length ≤ 500000)
    (hc : P = emptySum) :
    Calls Try.prog 20 #[.agg (dArr L (.slice U1 r1.length u1) (.slice U2 r2.length u2) s M), .agg (dArr P (.slice V1 q1.length v1) (.slice V2 q2.length v2) z Q)] w fun e w' => e = .returned (.tuple #[.agg (dArr P (.slice V1 q1.length v1) (.slice V2 q2.length v2) z Q), .int .i64 0]) ∧ Below w.heap.size w w' := by
  have BX := ((Blk.new w 32 (dArr L (.slice U1 r1.length u1) (.slice U2 r2.length u2) s M)).alloc (.cells (dArr P (.slice V1 q1.length v1) (.slice V2 q2.length v2) z Q) 32)).alloc (.cells (dArr (outL [] 0) (.slice none 0 0) (.slice none 0 0) ⟨#[]⟩ (outL [] 0)) 32)
  have BY := (Blk.new (w.alloc (.cells (dArr L (.slice U1 r1.length u1) (.slice U2 r2.length u2) s M) 32)) 32 (dArr P (.slice V1 q1.length v1) (.slice V2 q2.length v2) z Q)).alloc (.cells (dArr (outL [] 0) (.slice none 0 0) (.slice none 0 0) ⟨#[]⟩ (outL [] 0)) 32)
  have BR := Blk.new ((w.alloc (.cells (dArr L (.slice U1 r1.length u1) (.slice U2 r2.length u2) s M) 32)).alloc (.cells (dArr P (.slice V1 q1.length v1) (.slice V2 q2.length v2) z Q) 32)) 32 (dArr (outL [] 0) (.slice none 0 0) (.slice none 0 0) ⟨#[]⟩ (outL [] 0))
  have W0 := (((Below.refl w.heap.size w).alloc (Nat.le_refl _) (.cells (dArr L (.slice U1 r1.length u1) (.slice U2 r2.length u2) s M) 32)).alloc (by simp) (.cells (dArr P (.slice V1 q1.length v1) (.slice V2 q2.length v2) z Q) 32)).alloc (by simp; omega) (.cells (dArr (outL [] 0) (.slice none 0 0) (.slice none 0 0) ⟨#[]⟩ (outL [] 0)) 32)
  rw [sz] at BY
  rw [sz, sz] at BR
  generalize hw0 : (((w.alloc (.cells (dArr L (.slice U1 r1.length u1) (.slice U2 r2.length u2) s M) 32)).alloc (.cells (dArr P (.slice V1 q1.length v1) (.slice V2 q2.length v2) z Q) 32)).alloc (.cells (dArr (outL [] 0) (.slice none 0 0) (.slice none 0 0) ⟨#[]⟩ (outL [] 0)) 32)) = w0 at BX BY BR W0
  have HW0 := Aside0.mk hw0
  clear hw0
  have qe := eq_dig hP (imgSum_dig [] [] ⟨#[]⟩)
  rw [show imgSum [] [] ⟨#[]⟩ = emptySum from rfl] at qe
  have qm := eq_dig hP hM
  obtain ⟨E, hE⟩ : ∃ E, E = emptySum := ⟨_, rfl⟩
  have rempty_calls := fun W => rempty_calls W
  rw [← hE] at qe rempty_calls hc
  have BX1 := Aside0.mk BX.drew
  have BY1 := Aside0.mk BY.drew
  have BR1 := Aside0.mk BR.drew
  have W1 := Aside0.mk (below_drew W0)
  clear BX BY BR W0
  have SYY : Aside0 ((dArr P (.slice V1 q1.length v1) (.slice V2 q2.length v2) z Q).size = 67) := ⟨dArr_size hP.len hQ.len _ _ _⟩
  obtain ⟨x32, x33, x34⟩ := dArr_mid L M hL.len (.slice U1 r1.length u1) (.slice U2 r2.length u2) s
  obtain ⟨y32, y33, y34⟩ := dArr_mid P Q hP.len (.slice V1 q1.length v1) (.slice V2 q2.length v2) z
  have X32 := Aside0.mk x32
  have X33 := Aside0.mk x33
  have Y32 := Aside0.mk y32
  have Y33 := Aside0.mk y33
  have Y34 := Aside0.mk y34
  have hL := Aside0.mk hL
  have hM := Aside0.mk hM
  have hP := Aside0.mk hP
  have hQ := Aside0.mk hQ
  clear x32 x33 x34 y32 y33 y34
  rw [decide_eq_true hc] at qe
  clear hc hE qm
  go_enter Try.func20, Try.ntmps20
  go_wp2_with (rw [show (((w.alloc (.cells (dArr L (.slice U1 r1.length u1) (.slice U2 r2.length u2) s M) 32)).alloc (.cells (dArr P (.slice V1 q1.length v1) (.slice V2 q2.length v2) z Q) 32)).alloc (.cells Try.zeroCells32 32)) = w0 from (by rw [z32]; exact HW0.out)])
  refine start_ (n := 4) (S := fun w' => Blk w' (w.heap.size + 1) 32 (dArr P (.slice V1 q1.length v1) (.slice V2 q2.length v2) z Q)) (ds := []) #[false, false, false, false] (by kernel_rfl) rfl rfl (BY1.out) (fun hHeld => ?_)
  refine pure_ (i := 0) (N := some 6) (v := ?_) (a' := ?_) #[true, false, false, false] rfl rfl (by kernel_rfl) (fun _ _ _ h => h) (Or.inl ⟨by rfl, ?_⟩) ?_ ?_
  rotate_left
  · intro w'
    go_simp
    with_reducible rfl
  rotate_left
  · simp only [Act.put, List.setIfInBounds_toArray, List.set_cons_zero, List.set_cons_succ, i64_w, i32_w]
    rfl
  refine take_ (i := 1) (N := some 7) (v := ?_) (a' := ?_) #[true, true, false, false] rfl rfl (by kernel_rfl) (fun _ _ _ h => h) (Or.inl ⟨by rfl, ?_⟩) hHeld ?_ ?_
  rotate_left
  · intro w' s0
    refine mid_loads 29 (.tmp 6) ?_ (w.heap.size + 1) 0 ?_ (dArr_range w' _ P Q hP.out.len hQ.out.len _ _ z s0).1 Try.underlying29 ?_ ?_
    · rfl
    · rfl
    · rfl
    · rw [nums_length, hP.out.len]; kernel_rfl
  rotate_left
  · simp only [Act.put, List.setIfInBounds_toArray, List.set_cons_zero, List.set_cons_succ, i64_w, i32_w]
    rfl
  refine one_ (i := 2) (N := some 8) #[true, true, true, false] rfl rfl (by kernel_rfl) (by decide) (fun K hK => ?_)
  refine goes_ Try.func16 (by kernel_rfl) rfl #[] (by rfl) rfl rfl (by simp only [List.map_toArray, List.map_nil]) ?_
  with_reducible refine (rempty_calls _).mono ?_
  rintro e w2 ⟨rfl, hb⟩
  refine ⟨_, rfl, ?_⟩
  have BX2 := Aside0.mk (BX1.out.below hb BX1.out.lt)
  have BY2 := Aside0.mk (BY1.out.below hb BY1.out.lt)
  have BR2 := Aside0.mk (BR1.out.below hb BR1.out.lt)
  have W2 := Aside0.mk (below_then W1.out W1.out.size hb)
  clear hb
  refine hK.out _ _ (BY2.out) (fun hHeld => ?_)
  clear hK K
  refine norm_ (a' := ?_) ?_ ?_
  rotate_left
  · show Act.put _ (some 8) _ = _
    simp only [Act.put, List.setIfInBounds_toArray, List.set_cons_zero, List.set_cons_succ, i64_w, i32_w]
    rfl
  refine pure_ (i := 3) (N := some 9) (v := ?_) (a' := ?_) #[true, true, true, true] rfl rfl (by kernel_rfl) (fun _ _ _ h => h) (Or.inl ⟨by rfl, ?_⟩) ?_ ?_
  rotate_left
  · intro w'
    go_simp
    with_reducible rfl
  rotate_left
  · simp only [Act.put, List.setIfInBounds_toArray, List.set_cons_zero, List.set_cons_succ, i64_w, i32_w]
    rfl
  refine done_ (by kernel_rfl) ?_

  clear hHeld
  go_wp2_with (first | (refine wpList_load_row rfl 32 (.tmp 3) rfl (w.heap.size + 1) rfl 32 _ (0, 0) _ BY2.out Try.underlying32 rfl (by rw [SYY.out]; kernel_rfl) ?_) | (refine wpList_store_row rfl 32 (.tmp 4) (.tmp 10) rfl (w.heap.size + 1 + 1) _ rfl rfl 32 _ BR2.out (by rw [SYY.out]; kernel_rfl) (by rw [SYY.out]; kernel_rfl) (dArr_one _ _ _ _ _ _ _ _ _) ?_))
  exact bodyPost_ret (results_row_tmp (p := 4) (u := 5) (ty := 32) rfl _ _ (w.heap.size + 1 + 1) 32 _ _ rfl (BR2.out.setRow_ _) Try.underlying32 rfl (by rw [SYY.out]; kernel_rfl)) rfl ⟨rfl, below_setRow' W2.out (by omega) _⟩
set_option maxRecDepth 100000 in
set_option maxHeartbeats 8000000 in
theorem rjoin_none (L M P Q : List Int) (hL : Dig L) (hM : Dig M) (hP : Dig P) (hQ : Dig Q) (U1 : Option Addr) (u1 : Nat) (r1 : List S36) (U2 : Option Addr) (u2 : Nat) (r2 : List S36) (s : ByteArray) (V1 : Option Addr) (v1 : Nat) (q1 : List S36) (V2 : Option Addr) (v2 : Nat) (q2 : List S36) (z : ByteArray) (w : World)
    (hU1 : Kd.C k36 w U1 r1.length r1) (hu1 : r1.length ≤ u1) (hU2 : Kd.C k36 w U2 r2.length r2) (hu2 : r2.length ≤ u2) (hV1 : Kd.C k36 w V1 q1.length q1) (hv1 : q1.length ≤ v1) (hV2 : Kd.C k36 w V2 q2.length q2) (hv2 : q2.length ≤ v2)
    (m1 : r1.length ≤ 500000) (m2 : r2.length ≤ 500000) (n1 : q1.length ≤ 500000) (n2 : q2.length ≤ 500000)
    (hc : P ≠ emptySum) (hd : P ≠ M) :
    Calls Try.prog 20 #[.agg (dArr L (.slice U1 r1.length u1) (.slice U2 r2.length u2) s M), .agg (dArr P (.slice V1 q1.length v1) (.slice V2 q2.length v2) z Q)] w fun e w' => e = .returned (.tuple #[.agg (dArr (outL [] 0) (.slice none 0 0) (.slice none 0 0) ⟨#[]⟩ (outL [] 0)), .int .i64 23]) ∧ Below w.heap.size w w' := by
  have BX := ((Blk.new w 32 (dArr L (.slice U1 r1.length u1) (.slice U2 r2.length u2) s M)).alloc (.cells (dArr P (.slice V1 q1.length v1) (.slice V2 q2.length v2) z Q) 32)).alloc (.cells (dArr (outL [] 0) (.slice none 0 0) (.slice none 0 0) ⟨#[]⟩ (outL [] 0)) 32)
  have BY := (Blk.new (w.alloc (.cells (dArr L (.slice U1 r1.length u1) (.slice U2 r2.length u2) s M) 32)) 32 (dArr P (.slice V1 q1.length v1) (.slice V2 q2.length v2) z Q)).alloc (.cells (dArr (outL [] 0) (.slice none 0 0) (.slice none 0 0) ⟨#[]⟩ (outL [] 0)) 32)
  have BR := Blk.new ((w.alloc (.cells (dArr L (.slice U1 r1.length u1) (.slice U2 r2.length u2) s M) 32)).alloc (.cells (dArr P (.slice V1 q1.length v1) (.slice V2 q2.length v2) z Q) 32)) 32 (dArr (outL [] 0) (.slice none 0 0) (.slice none 0 0) ⟨#[]⟩ (outL [] 0))
  have W0 := (((Below.refl w.heap.size w).alloc (Nat.le_refl _) (.cells (dArr L (.slice U1 r1.length u1) (.slice U2 r2.length u2) s M) 32)).alloc (by simp) (.cells (dArr P (.slice V1 q1.length v1) (.slice V2 q2.length v2) z Q) 32)).alloc (by simp; omega) (.cells (dArr (outL [] 0) (.slice none 0 0) (.slice none 0 0) ⟨#[]⟩ (outL [] 0)) 32)
  rw [sz] at BY
  rw [sz, sz] at BR
  generalize hw0 : (((w.alloc (.cells (dArr L (.slice U1 r1.length u1) (.slice U2 r2.length u2) s M) 32)).alloc (.cells (dArr P (.slice V1 q1.length v1) (.slice V2 q2.length v2) z Q) 32)).alloc (.cells (dArr (outL [] 0) (.slice none 0 0) (.slice none 0 0) ⟨#[]⟩ (outL [] 0)) 32)) = w0 at BX BY BR W0
  have HW0 := Aside0.mk hw0
  clear hw0
  have qe := eq_dig hP (imgSum_dig [] [] ⟨#[]⟩)
  rw [show imgSum [] [] ⟨#[]⟩ = emptySum from rfl] at qe
  have qm := eq_dig hP hM
  obtain ⟨E, hE⟩ : ∃ E, E = emptySum := ⟨_, rfl⟩
  have rempty_calls := fun W => rempty_calls W
  rw [← hE] at qe rempty_calls hc
  have BX1 := Aside0.mk BX.drew
  have BY1 := Aside0.mk BY.drew
  have BR1 := Aside0.mk BR.drew
  have W1 := Aside0.mk (below_drew W0)
  clear BX BY BR W0
  have SYY : Aside0 ((dArr P (.slice V1 q1.length v1) (.slice V2 q2.length v2) z Q).size = 67) := ⟨dArr_size hP.len hQ.len _ _ _⟩
  obtain ⟨x32, x33, x34⟩ := dArr_mid L M hL.len (.slice U1 r1.length u1) (.slice U2 r2.length u2) s
  obtain ⟨y32, y33, y34⟩ := dArr_mid P Q hP.len (.slice V1 q1.length v1) (.slice V2 q2.length v2) z
  have X32 := Aside0.mk x32
  have X33 := Aside0.mk x33
  have Y32 := Aside0.mk y32
  have Y33 := Aside0.mk y33
  have Y34 := Aside0.mk y34
  have hL := Aside0.mk hL
  have hM := Aside0.mk hM
  have hP := Aside0.mk hP
  have hQ := Aside0.mk hQ
  clear x32 x33 x34 y32 y33 y34
  rw [decide_eq_false hc] at qe
  rw [decide_eq_false hd] at qm
  clear hc hE hd
  go_enter Try.func20, Try.ntmps20
  go_wp2_with (rw [show (((w.alloc (.cells (dArr L (.slice U1 r1.length u1) (.slice U2 r2.length u2) s M) 32)).alloc (.cells (dArr P (.slice V1 q1.length v1) (.slice V2 q2.length v2) z Q) 32)).alloc (.cells Try.zeroCells32 32)) = w0 from (by rw [z32]; exact HW0.out)])
  refine start_ (n := 4) (S := fun w' => Blk w' (w.heap.size + 1) 32 (dArr P (.slice V1 q1.length v1) (.slice V2 q2.length v2) z Q)) (ds := []) #[false, false, false, false] (by kernel_rfl) rfl rfl (BY1.out) (fun hHeld => ?_)
  refine pure_ (i := 0) (N := some 6) (v := ?_) (a' := ?_) #[true, false, false, false] rfl rfl (by kernel_rfl) (fun _ _ _ h => h) (Or.inl ⟨by rfl, ?_⟩) ?_ ?_
  rotate_left
  · intro w'
    go_simp
    with_reducible rfl
  rotate_left
  · simp only [Act.put, List.setIfInBounds_toArray, List.set_cons_zero, List.set_cons_succ, i64_w, i32_w]
    rfl
  refine take_ (i := 1) (N := some 7) (v := ?_) (a' := ?_) #[true, true, false, false] rfl rfl (by kernel_rfl) (fun _ _ _ h => h) (Or.inl ⟨by rfl, ?_⟩) hHeld ?_ ?_
  rotate_left
  · intro w' s0
    refine mid_loads 29 (.tmp 6) ?_ (w.heap.size + 1) 0 ?_ (dArr_range w' _ P Q hP.out.len hQ.out.len _ _ z s0).1 Try.underlying29 ?_ ?_
    · rfl
    · rfl
    · rfl
    · rw [nums_length, hP.out.len]; kernel_rfl
  rotate_left
  · simp only [Act.put, List.setIfInBounds_toArray, List.set_cons_zero, List.set_cons_succ, i64_w, i32_w]
    rfl
  refine one_ (i := 2) (N := some 8) #[true, true, true, false] rfl rfl (by kernel_rfl) (by decide) (fun K hK => ?_)
  refine goes_ Try.func16 (by kernel_rfl) rfl #[] (by rfl) rfl rfl (by simp only [List.map_toArray, List.map_nil]) ?_
  with_reducible refine (rempty_calls _).mono ?_
  rintro e w2 ⟨rfl, hb⟩
  refine ⟨_, rfl, ?_⟩
  have BX2 := Aside0.mk (BX1.out.below hb BX1.out.lt)
  have BY2 := Aside0.mk (BY1.out.below hb BY1.out.lt)
  have BR2 := Aside0.mk (BR1.out.below hb BR1.out.lt)
  have W2 := Aside0.mk (below_then W1.out W1.out.size hb)
  clear hb
  refine hK.out _ _ (BY2.out) (fun hHeld => ?_)
  clear hK K
  refine norm_ (a' := ?_) ?_ ?_
  rotate_left
  · show Act.put _ (some 8) _ = _
    simp only [Act.put, List.setIfInBounds_toArray, List.set_cons_zero, List.set_cons_succ, i64_w, i32_w]
    rfl
  refine pure_ (i := 3) (N := some 9) (v := ?_) (a' := ?_) #[true, true, true, true] rfl rfl (by kernel_rfl) (fun _ _ _ h => h) (Or.inl ⟨by rfl, ?_⟩) ?_ ?_
  rotate_left
  · intro w'
    go_simp
    with_reducible rfl
  rotate_left
  · simp only [Act.put, List.setIfInBounds_toArray, List.set_cons_zero, List.set_cons_succ, i64_w, i32_w]
    rfl
  refine done_ (by kernel_rfl) ?_

  clear hHeld
  go_wp2_with (first | (refine wpList_load_midg (by rfl) 29 (.tmp 11) rfl (w.heap.size + 1) 0 rfl _ (run_loadAt_mid (P := Try.prog) _ (w.heap.size + 1) 0 29 _ _ (dArr_range _ _ P Q hP.out.len hQ.out.len _ _ z BY2.out).1 Try.underlying29 rfl (by rw [nums_length, hP.out.len]; kernel_rfl)) ?_) | (refine wpList_load_midg (by rfl) 29 (.tmp 13) rfl w.heap.size 35 rfl _ (run_loadAt_mid (P := Try.prog) _ w.heap.size 35 29 _ _ (dArr_range _ _ L M hL.out.len hM.out.len _ _ s BX2.out).2 Try.underlying29 rfl (by rw [nums_length, hM.out.len]; kernel_rfl)) ?_) | (refine wpList_build0 (by rfl) 32 #[] rfl (dArr (outL [] 0) (.slice none 0 0) (.slice none 0 0) ⟨#[]⟩ (outL [] 0)) (by kernel_rfl) ?_) | (refine wpList_store_row rfl 32 (.tmp 4) (.tmp 16) rfl (w.heap.size + 1 + 1) _ rfl rfl 32 _ BR2.out (by kernel_rfl) (by kernel_rfl) (by kernel_rfl) ?_))
  exact bodyPost_ret (results_row_tmp (p := 4) (u := 5) (ty := 32) rfl _ _ (w.heap.size + 1 + 1) 32 _ _ rfl (BR2.out.setRow_ _) Try.underlying32 rfl (by kernel_rfl)) rfl ⟨rfl, below_setRow' W2.out (by omega) _⟩
set_option maxRecDepth 100000 in
set_option maxHeartbeats 8000000 in
theorem rjoin_both (kk : Nat) (L M P Q : List Int) (hL : Dig L) (hM : Dig M) (hP : Dig P) (hQ : Dig Q) (U1 : Option Addr) (u1 : Nat) (r1 : List S36) (U2 : Option Addr) (u2 : Nat) (r2 : List S36) (s : ByteArray) (V1 : Option Addr) (v1 : Nat) (q1 : List S36) (V2 : Option Addr) (v2 : Nat) (q2 : List S36) (z : ByteArray) (w : World)
    (hU1 : Kd.C k36 w U1 r1.length r1) (hu1 : r1.length ≤ u1) (hU2 : Kd.C k36 w U2 r2.length r2) (hu2 : r2.length ≤ u2) (hV1 : Kd.C k36 w V1 q1.length q1) (hv1 : q1.length ≤ v1) (hV2 : Kd.C k36 w V2 q2.length q2) (hv2 : q2.length ≤ v2)
    (m1 : r1.length ≤ 500000) (m2 : r2.length ≤ 500000) (n1 : q1.length ≤ 500000) (n2 : q2.length ≤ 500000)
    (hw1 : hibernacleref35_both.f kk r1 q1 = some (bothL (r1 ++ q1))) (hw2 : hibernacleref35_both.f kk r2 q2 = some (bothL (r2 ++ q2)))
    (hc : P ≠ emptySum) (hd : P = M) :
    Calls Try.prog 20 #[.agg (dArr L (.slice U1 r1.length u1) (.slice U2 r2.length u2) s M), .agg (dArr P (.slice V1 q1.length v1) (.slice V2 q2.length v2) z Q)] w fun e w' => ∃ T1 t1 T2 t2, e = .returned (.tuple #[.agg (dArr L (.slice T1 (bothL (r1 ++ q1)).length t1) (.slice T2 (bothL (r2 ++ q2)).length t2) z Q), .int .i64 0]) ∧ Kd.R k36 36 w' w.heap.size (fun _ => True) (.slice T1 (bothL (r1 ++ q1)).length t1) (bothL (r1 ++ q1)) ∧ Kd.R k36 36 w' w.heap.size (fun _ => True) (.slice T2 (bothL (r2 ++ q2)).length t2) (bothL (r2 ++ q2)) ∧ Below w.heap.size w w' := by
  have BX := ((Blk.new w 32 (dArr L (.slice U1 r1.length u1) (.slice U2 r2.length u2) s M)).alloc (.cells (dArr P (.slice V1 q1.length v1) (.slice V2 q2.length v2) z Q) 32)).alloc (.cells (dArr (outL [] 0) (.slice none 0 0) (.slice none 0 0) ⟨#[]⟩ (outL [] 0)) 32)
  have BY := (Blk.new (w.alloc (.cells (dArr L (.slice U1 r1.length u1) (.slice U2 r2.length u2) s M) 32)) 32 (dArr P (.slice V1 q1.length v1) (.slice V2 q2.length v2) z Q)).alloc (.cells (dArr (outL [] 0) (.slice none 0 0) (.slice none 0 0) ⟨#[]⟩ (outL [] 0)) 32)
  have BR := Blk.new ((w.alloc (.cells (dArr L (.slice U1 r1.length u1) (.slice U2 r2.length u2) s M) 32)).alloc (.cells (dArr P (.slice V1 q1.length v1) (.slice V2 q2.length v2) z Q) 32)) 32 (dArr (outL [] 0) (.slice none 0 0) (.slice none 0 0) ⟨#[]⟩ (outL [] 0))
  have W0 := (((Below.refl w.heap.size w).alloc (Nat.le_refl _) (.cells (dArr L (.slice U1 r1.length u1) (.slice U2 r2.length u2) s M) 32)).alloc (by simp) (.cells (dArr P (.slice V1 q1.length v1) (.slice V2 q2.length v2) z Q) 32)).alloc (by simp; omega) (.cells (dArr (outL [] 0) (.slice none 0 0) (.slice none 0 0) ⟨#[]⟩ (outL [] 0)) 32)
  rw [sz] at BY
  rw [sz, sz] at BR
  generalize hw0 : (((w.alloc (.cells (dArr L (.slice U1 r1.length u1) (.slice U2 r2.length u2) s M) 32)).alloc (.cells (dArr P (.slice V1 q1.length v1) (.slice V2 q2.length v2) z Q) 32)).alloc (.cells (dArr (outL [] 0) (.slice none 0 0) (.slice none 0 0) ⟨#[]⟩ (outL [] 0)) 32)) = w0 at BX BY BR W0
  have HW0 := Aside0.mk hw0
  clear hw0
  have qe := eq_dig hP (imgSum_dig [] [] ⟨#[]⟩)
  rw [show imgSum [] [] ⟨#[]⟩ = emptySum from rfl] at qe
  have qm := eq_dig hP hM
  obtain ⟨E, hE⟩ : ∃ E, E = emptySum := ⟨_, rfl⟩
  have rempty_calls := fun W => rempty_calls W
  rw [← hE] at qe rempty_calls hc
  have BX1 := Aside0.mk BX.drew
  have BY1 := Aside0.mk BY.drew
  have BR1 := Aside0.mk BR.drew
  have W1 := Aside0.mk (below_drew W0)
  clear BX BY BR W0
  have SYY : Aside0 ((dArr P (.slice V1 q1.length v1) (.slice V2 q2.length v2) z Q).size = 67) := ⟨dArr_size hP.len hQ.len _ _ _⟩
  obtain ⟨x32, x33, x34⟩ := dArr_mid L M hL.len (.slice U1 r1.length u1) (.slice U2 r2.length u2) s
  obtain ⟨y32, y33, y34⟩ := dArr_mid P Q hP.len (.slice V1 q1.length v1) (.slice V2 q2.length v2) z
  have X32 := Aside0.mk x32
  have X33 := Aside0.mk x33
  have Y32 := Aside0.mk y32
  have Y33 := Aside0.mk y33
  have Y34 := Aside0.mk y34
  have hL := Aside0.mk hL
  have hM := Aside0.mk hM
  have hP := Aside0.mk hP
  have hQ := Aside0.mk hQ
  clear x32 x33 x34 y32 y33 y34
  rw [decide_eq_false hc] at qe
  rw [decide_eq_true hd] at qm
  clear hc hE hd
  go_enter Try.func20, Try.ntmps20
  go_wp2_with (rw [show (((w.alloc (.cells (dArr L (.slice U1 r1.length u1) (.slice U2 r2.length u2) s M) 32)).alloc (.cells (dArr P (.slice V1 q1.length v1) (.slice V2 q2.length v2) z Q) 32)).alloc (.cells Try.zeroCells32 32)) = w0 from (by rw [z32]; exact HW0.out)])
  refine start_ (n := 4) (S := fun w' => Blk w' (w.heap.size + 1) 32 (dArr P (.slice V1 q1.length v1) (.slice V2 q2.length v2) z Q)) (ds := []) #[false, false, false, false] (by kernel_rfl) rfl rfl (BY1.out) (fun hHeld => ?_)
  refine pure_ (i := 0) (N := some 6) (v := ?_) (a' := ?_) #[true, false, false, false] rfl rfl (by kernel_rfl) (fun _ _ _ h => h) (Or.inl ⟨by rfl, ?_⟩) ?_ ?_
  rotate_left
  · intro w'
    go_simp
    with_reducible rfl
  rotate_left
  · simp only [Act.put, List.setIfInBounds_toArray, List.set_cons_zero, List.set_cons_succ, i64_w, i32_w]
    rfl
  refine take_ (i := 1) (N := some 7) (v := ?_) (a' := ?_) #[true, true, false, false] rfl rfl (by kernel_rfl) (fun _ _ _ h => h) (Or.inl ⟨by rfl, ?_⟩) hHeld ?_ ?_
  rotate_left
  · intro w' s0
    refine mid_loads 29 (.tmp 6) ?_ (w.heap.size + 1) 0 ?_ (dArr_range w' _ P Q hP.out.len hQ.out.len _ _ z s0).1 Try.underlying29 ?_ ?_
    · rfl
    · rfl
    · rfl
    · rw [nums_length, hP.out.len]; kernel_rfl
  rotate_left
  · simp only [Act.put, List.setIfInBounds_toArray, List.set_cons_zero, List.set_cons_succ, i64_w, i32_w]
    rfl
  refine one_ (i := 2) (N := some 8) #[true, true, true, false] rfl rfl (by kernel_rfl) (by decide) (fun K hK => ?_)
  refine goes_ Try.func16 (by kernel_rfl) rfl #[] (by rfl) rfl rfl (by simp only [List.map_toArray, List.map_nil]) ?_
  with_reducible refine (rempty_calls _).mono ?_
  rintro e w2 ⟨rfl, hb⟩
  refine ⟨_, rfl, ?_⟩
  have BX2 := Aside0.mk (BX1.out.below hb BX1.out.lt)
  have BY2 := Aside0.mk (BY1.out.below hb BY1.out.lt)
  have BR2 := Aside0.mk (BR1.out.below hb BR1.out.lt)
  have W2 := Aside0.mk (below_then W1.out W1.out.size hb)
  clear hb
  refine hK.out _ _ (BY2.out) (fun hHeld => ?_)
  clear hK K
  refine norm_ (a' := ?_) ?_ ?_
  rotate_left
  · show Act.put _ (some 8) _ = _
    simp only [Act.put, List.setIfInBounds_toArray, List.set_cons_zero, List.set_cons_succ, i64_w, i32_w]
    rfl
  refine pure_ (i := 3) (N := some 9) (v := ?_) (a' := ?_) #[true, true, true, true] rfl rfl (by kernel_rfl) (fun _ _ _ h => h) (Or.inl ⟨by rfl, ?_⟩) ?_ ?_
  rotate_left
  · intro w'
    go_simp
    with_reducible rfl
  rotate_left
  · simp only [Act.put, List.setIfInBounds_toArray, List.set_cons_zero, List.set_cons_succ, i64_w, i32_w]
    rfl
  refine done_ (by kernel_rfl) ?_

  clear hHeld
  go_wp2_with (first | (refine wpList_load_midg (by rfl) 29 (.tmp 11) rfl (w.heap.size + 1) 0 rfl _ (run_loadAt_mid (P := Try.prog) _ (w.heap.size + 1) 0 29 _ _ (dArr_range _ _ P Q hP.out.len hQ.out.len _ _ z BY2.out).1 Try.underlying29 rfl (by rw [nums_length, hP.out.len]; kernel_rfl)) ?_) | (refine wpList_load_midg (by rfl) 29 (.tmp 13) rfl w.heap.size 35 rfl _ (run_loadAt_mid (P := Try.prog) _ w.heap.size 35 29 _ _ (dArr_range _ _ L M hL.out.len hM.out.len _ _ s BX2.out).2 Try.underlying29 rfl (by rw [nums_length, hM.out.len]; kernel_rfl)) ?_))
  have BX3 := Aside0.mk BX2.out.drew
  have BY3 := Aside0.mk BY2.out.drew
  have BR3 := Aside0.mk BR2.out.drew
  have W3 := Aside0.mk (below_drew W2.out)
  clear BX1 BY1 BR1 W1 BX2 BY2 BR2 W2
  refine start_ (n := 19) (S := fun w' => Blk w' w.heap.size 32 (dArr L (.slice U1 r1.length u1) (.slice U2 r2.length u2) s M) ∧ Blk w' (w.heap.size + 1) 32 (dArr P (.slice V1 q1.length v1) (.slice V2 q2.length v2) z Q) ∧ w'.cell? ⟨w.heap.size, 32, none⟩ = some (.slice U1 r1.length u1) ∧ w'.cell? ⟨w.heap.size, 33, none⟩ = some (.slice U2 r2.length u2) ∧ w'.cell? ⟨w.heap.size + 1, 32, none⟩ = some (.slice V1 q1.length v1) ∧ w'.cell? ⟨w.heap.size + 1, 33, none⟩ = some (.slice V2 q2.length v2) ∧ w'.cell? ⟨w.heap.size + 1, 34, none⟩ = some (.string z)) (ds := [17]) #[false, false, false, false, false, false, false, false, false, false, false, false, false, false, false, false, false, false, false] (by kernel_rfl) rfl rfl ⟨BX3.out, BY3.out, ((BX3.out.cell 32).trans X32.out), ((BX3.out.cell 33).trans X33.out), ((BY3.out.cell 32).trans Y32.out), ((BY3.out.cell 33).trans Y33.out), ((BY3.out.cell 34).trans Y34.out)⟩ (fun hHeld => ?_)
  refine pure_ (i := 0) (N := some 17) (v := ?_) (a' := ?_) #[true, false, false, false, false, false, false, false, false, false, false, false, false, false, false, false, false, false, false] rfl rfl (by kernel_rfl) (fun _ _ _ h => h) (Or.inl ⟨by rfl, ?_⟩) ?_ ?_
  rotate_left
  · intro w'
    go_simp
    with_reducible rfl
  rotate_left
  · simp only [Act.put, List.setIfInBounds_toArray, List.set_cons_zero, List.set_cons_succ, i64_w, i32_w]
    rfl
  refine pure_ (i := 2) (N := some 19) (v := ?_) (a' := ?_) #[true, false, true, false, false, false, false, false, false, false, false, false, false, false, false, false, false, false, false] rfl rfl (by kernel_rfl) (fun _ _ _ h => h) (Or.inl ⟨by rfl, ?_⟩) ?_ ?_
  rotate_left
  · intro w'
    go_simp
    with_reducible rfl
  rotate_left
  · simp only [Act.put, List.setIfInBounds_toArray, List.set_cons_zero, List.set_cons_succ, i64_w, i32_w]
    rfl
  refine pure_ (i := 4) (N := some 21) (v := ?_) (a' := ?_) #[true, false, true, false, true, false, false, false, false, false, false, false, false, false, false, false, false, false, false] rfl rfl (by kernel_rfl) (fun _ _ _ h => h) (Or.inl ⟨by rfl, ?_⟩) ?_ ?_
  rotate_left
  · intro w'
    go_simp
    with_reducible rfl
  rotate_left
  · simp only [Act.put, List.setIfInBounds_toArray, List.set_cons_zero, List.set_cons_succ, i64_w, i32_w]
    rfl
  refine pure_ (i := 7) (N := some 24) (v := ?_) (a' := ?_) #[true, false, true, false, true, false, false, true, false, false, false, false, false, false, false, false, false, false, false] rfl rfl (by kernel_rfl) (fun _ _ _ h => h) (Or.inl ⟨by rfl, ?_⟩) ?_ ?_
  rotate_left
  · intro w'
    go_simp
    with_reducible rfl
  rotate_left
  · simp only [Act.put, List.setIfInBounds_toArray, List.set_cons_zero, List.set_cons_succ, i64_w, i32_w]
    rfl
  refine pure_ (i := 9) (N := some 26) (v := ?_) (a' := ?_) #[true, false, true, false, true, false, false, true, false, true, false, false, false, false, false, false, false, false, false] rfl rfl (by kernel_rfl) (fun _ _ _ h => h) (Or.inl ⟨by rfl, ?_⟩) ?_ ?_
  rotate_left
  · intro w'
    go_simp
    with_reducible rfl
  rotate_left
  · simp only [Act.put, List.setIfInBounds_toArray, List.set_cons_zero, List.set_cons_succ, i64_w, i32_w]
    rfl
  refine pure_ (i := 12) (N := some 29) (v := ?_) (a' := ?_) #[true, false, true, false, true, false, false, true, false, true, false, false, true, false, false, false, false, false, false] rfl rfl (by kernel_rfl) (fun _ _ _ h => h) (Or.inl ⟨by rfl, ?_⟩) ?_ ?_
  rotate_left
  · intro w'
    go_simp
    with_reducible rfl
  rotate_left
  · simp only [Act.put, List.setIfInBounds_toArray, List.set_cons_zero, List.set_cons_succ, i64_w, i32_w]
    rfl
  refine pure_ (i := 14) (N := some 31) (v := ?_) (a' := ?_) #[true, false, true, false, true, false, false, true, false, true, false, false, true, false, true, false, false, false, false] rfl rfl (by kernel_rfl) (fun _ _ _ h => h) (Or.inl ⟨by rfl, ?_⟩) ?_ ?_
  rotate_left
  · intro w'
    go_simp
    with_reducible rfl
  rotate_left
  · simp only [Act.put, List.setIfInBounds_toArray, List.set_cons_zero, List.set_cons_succ, i64_w, i32_w]
    rfl
  refine take_ (i := 1) (N := some 18) (v := ?_) (a' := ?_) #[true, true, true, false, true, false, false, true, false, true, false, false, true, false, true, false, false, false, false] rfl rfl (by kernel_rfl) (fun _ _ _ h => h) (Or.inl ⟨by rfl, ?_⟩) hHeld ?_ ?_
  rotate_left
  · rintro w' ⟨s0, s1, s2, s3, s4, s5, s6⟩
    refine mid_loads 29 (.tmp 17) ?_ w.heap.size 0 ?_ (dArr_range w' _ L M hL.out.len hM.out.len _ _ s s0).1 Try.underlying29 ?_ ?_
    · rfl
    · rfl
    · rfl
    · rw [nums_length, hL.out.len]; kernel_rfl
  rotate_left
  · simp only [Act.put, List.setIfInBounds_toArray, List.set_cons_zero, List.set_cons_succ, i64_w, i32_w]
    rfl
  refine take_ (i := 3) (N := some 20) (v := ?_) (a' := ?_) #[true, true, true, true, true, false, false, true, false, true, false, false, true, false, true, false, false, false, false] rfl rfl (by kernel_rfl) (fun _ _ _ h => h) (Or.inl ⟨by rfl, ?_⟩) hHeld ?_ ?_
  rotate_left
  · rintro w' ⟨s0, s1, s2, s3, s4, s5, s6⟩
    go_simp
    with_reducible rfl
  rotate_left
  · simp only [Act.put, List.setIfInBounds_toArray, List.set_cons_zero, List.set_cons_succ, i64_w, i32_w]
    rfl
  refine take_ (i := 5) (N := some 22) (v := ?_) (a' := ?_) #[true, true, true, true, true, true, false, true, false, true, false, false, true, false, true, false, false, false, false] rfl rfl (by kernel_rfl) (fun _ _ _ h => h) (Or.inl ⟨by rfl, ?_⟩) hHeld ?_ ?_
  rotate_left
  · rintro w' ⟨s0, s1, s2, s3, s4, s5, s6⟩
    go_simp
    with_reducible rfl
  rotate_left
  · simp only [Act.put, List.setIfInBounds_toArray, List.set_cons_zero, List.set_cons_succ, i64_w, i32_w]
    rfl
  refine take_ (i := 8) (N := some 25) (v := ?_) (a' := ?_) #[true, true, true, true, true, true, false, true, true, true, false, false, true, false, true, false, false, false, false] rfl rfl (by kernel_rfl) (fun _ _ _ h => h) (Or.inl ⟨by rfl, ?_⟩) hHeld ?_ ?_
  rotate_left
  · rintro w' ⟨s0, s1, s2, s3, s4, s5, s6⟩
    go_simp
    with_reducible rfl
  rotate_left
  · simp only [Act.put, List.setIfInBounds_toArray, List.set_cons_zero, List.set_cons_succ, i64_w, i32_w]
    rfl
  refine take_ (i := 10) (N := some 27) (v := ?_) (a' := ?_) #[true, true, true, true, true, true, false, true, true, true, true, false, true, false, true, false, false, false, false] rfl rfl (by kernel_rfl) (fun _ _ _ h => h) (Or.inl ⟨by rfl, ?_⟩) hHeld ?_ ?_
  rotate_left
  · rintro w' ⟨s0, s1, s2, s3, s4, s5, s6⟩
    go_simp
    with_reducible rfl
  rotate_left
  · simp only [Act.put, List.setIfInBounds_toArray, List.set_cons_zero, List.set_cons_succ, i64_w, i32_w]
    rfl
  refine take_ (i := 13) (N := some 30) (v := ?_) (a' := ?_) #[true, true, true, true, true, true, false, true, true, true, true, false, true, true, true, false, false, false, false] rfl rfl (by kernel_rfl) (fun _ _ _ h => h) (Or.inl ⟨by rfl, ?_⟩) hHeld ?_ ?_
  rotate_left
  · rintro w' ⟨s0, s1, s2, s3, s4, s5, s6⟩
    go_simp
    with_reducible rfl
  rotate_left
  · simp only [Act.put, List.setIfInBounds_toArray, List.set_cons_zero, List.set_cons_succ, i64_w, i32_w]
    rfl
  refine take_ (i := 15) (N := some 32) (v := ?_) (a' := ?_) #[true, true, true, true, true, true, false, true, true, true, true, false, true, true, true, true, false, false, false] rfl rfl (by kernel_rfl) (fun _ _ _ h => h) (Or.inl ⟨by rfl, ?_⟩) hHeld ?_ ?_
  rotate_left
  · rintro w' ⟨s0, s1, s2, s3, s4, s5, s6⟩
    refine mid_loads 29 (.tmp 31) ?_ (w.heap.size + 1) 35 ?_ (dArr_range w' _ P Q hP.out.len hQ.out.len _ _ z s1).2 Try.underlying29 ?_ ?_
    · rfl
    · rfl
    · rfl
    · rw [nums_length, hQ.out.len]; kernel_rfl
  rotate_left
  · simp only [Act.put, List.setIfInBounds_toArray, List.set_cons_zero, List.set_cons_succ, i64_w, i32_w]
    rfl
  refine one_ (i := 6) (N := some 23) #[true, true, true, true, true, true, true, true, true, true, true, false, true, true, true, true, false, false, false] rfl rfl (by kernel_rfl) (by decide) (fun K hK => ?_)
  refine goes_ Try.func35 (by kernel_rfl) rfl #[.slice U1 r1.length u1, .slice V1 q1.length v1] (by rfl) rfl rfl (by simp only [List.map_toArray, List.map_cons, List.map_nil]; rfl) ?_
  with_reducible refine (hibernacleref35_both.calls kk U1 u1 r1 V1 v1 q1 (bothL (r1 ++ q1)) _ (Kd.C_below hU1 W3.out) hu1 (Kd.C_below hV1 W3.out) hv1 hw1).mono ?_
  rintro e w4 ⟨vv1, rfl, hR, hb⟩
  refine ⟨_, rfl, ?_⟩
  obtain ⟨T1, t1, rfl⟩ := Kd.R_slice hR
  have BX4 := Aside0.mk (BX3.out.below hb BX3.out.lt)
  have BY4 := Aside0.mk (BY3.out.below hb BY3.out.lt)
  have BR4 := Aside0.mk (BR3.out.below hb BR3.out.lt)
  have W4 := Aside0.mk (below_then W3.out W3.out.size hb)
  have C14 := Aside0.mk hR
  clear hb hR
  refine hK.out _ _ ⟨BX4.out, BY4.out, ((BX4.out.cell 32).trans X32.out), ((BX4.out.cell 33).trans X33.out), ((BY4.out.cell 32).trans Y32.out), ((BY4.out.cell 33).trans Y33.out), ((BY4.out.cell 34).trans Y34.out)⟩ (fun hHeld => ?_)
  clear hK K
  refine norm_ (a' := ?_) ?_ ?_
  rotate_left
  · show Act.put _ (some 23) _ = _
    simp only [Act.put, List.setIfInBounds_toArray, List.set_cons_zero, List.set_cons_succ, i64_w, i32_w]
    rfl
  refine one_ (i := 11) (N := some 28) #[true, true, true, true, true, true, true, true, true, true, true, true, true, true, true, true, false, false, false] rfl rfl (by kernel_rfl) (by decide) (fun K hK => ?_)
  refine goes_ Try.func35 (by kernel_rfl) rfl #[.slice U2 r2.length u2, .slice V2 q2.length v2] (by rfl) rfl rfl (by simp only [List.map_toArray, List.map_cons, List.map_nil]; rfl) ?_
  with_reducible refine (hibernacleref35_both.calls kk U2 u2 r2 V2 v2 q2 (bothL (r2 ++ q2)) _ (Kd.C_below hU2 W4.out) hu2 (Kd.C_below hV2 W4.out) hv2 hw2).mono ?_
  rintro e w5 ⟨vv2, rfl, hR, hb⟩
  refine ⟨_, rfl, ?_⟩
  obtain ⟨T2, t2, rfl⟩ := Kd.R_slice hR
  have BX5 := Aside0.mk (BX4.out.below hb BX4.out.lt)
  have BY5 := Aside0.mk (BY4.out.below hb BY4.out.lt)
  have BR5 := Aside0.mk (BR4.out.below hb BR4.out.lt)
  have W5 := Aside0.mk (below_then W4.out W4.out.size hb)
  have C15 := Aside0.mk (Kd.R_below C14.out hb)
  have C25 := Aside0.mk hR
  clear hb hR
  refine hK.out _ _ ⟨BX5.out, BY5.out, ((BX5.out.cell 32).trans X32.out), ((BX5.out.cell 33).trans X33.out), ((BY5.out.cell 32).trans Y32.out), ((BY5.out.cell 33).trans Y33.out), ((BY5.out.cell 34).trans Y34.out)⟩ (fun hHeld => ?_)
  clear hK K
  refine norm_ (a' := ?_) ?_ ?_
  rotate_left
  · show Act.put _ (some 28) _ = _
    simp only [Act.put, List.setIfInBounds_toArray, List.set_cons_zero, List.set_cons_succ, i64_w, i32_w]
    rfl
  refine pure_ (i := 16) (N := some 33) (v := ?_) (a' := ?_) #[true, true, true, true, true, true, true, true, true, true, true, true, true, true, true, true, true, false, false] rfl rfl (by kernel_rfl) (fun _ _ _ h => h) (Or.inl ⟨by rfl, ?_⟩) ?_ ?_
  rotate_left
  · intro w'
    refine op_builds 32 #[(0, .tmp 18), (1, .tmp 23), (2, .tmp 28), (3, .tmp 30), (4, .tmp 32)] ?_ (dArr L (.slice T1 (bothL (r1 ++ q1)).length t1) (.slice T2 (bothL (r2 ++ q2)).length t2) z Q) ((congrArg (Try.prog.built 32) ?_).trans (built_delta hL.out.len hQ.out.len T1 (bothL (r1 ++ q1)).length t1 T2 (bothL (r2 ++ q2)).length t2 z))
    · rfl
    · simp only [List.map_toArray, List.map_cons, List.map_nil]
      rfl
  rotate_left
  · simp only [Act.put, List.setIfInBounds_toArray, List.set_cons_zero, List.set_cons_succ, i64_w, i32_w]
    rfl
  refine last_ (i := 17) (N := none) #[true, true, true, true, true, true, true, true, true, true, true, true, true, true, true, true, true, true, false] rfl rfl (by kernel_rfl) (by decide) (fun K hK => ?_)
  refine skip_ (w1 := w5.setRow (w.heap.size + 1 + 1) (dArr L (.slice T1 (bothL (r1 ++ q1)).length t1) (.slice T2 (bothL (r2 ++ q2)).length t2) z Q)) (by rfl) rfl ?_ ?_
  · exact row_stores 32 (.tmp 4) (.tmp 33) rfl (w.heap.size + 1 + 1) _ rfl rfl BR5.out (by rw [dArr_size hL.out.len hQ.out.len]; kernel_rfl) (by rw [dArr_size hL.out.len hQ.out.len, dArr_size (outL_len _ _) (outL_len _ _)]) (dArr_one _ _ _ _ _ _ _ _ _)
  refine hK.out _ _ ?_
  clear hK K
  refine pure_ (i := 18) (N := some 5) (v := ?_) (a' := ?_) #[true, true, true, true, true, true, true, true, true, true, true, true, true, true, true, true, true, true, true] rfl rfl (by kernel_rfl) (fun _ _ _ h => h) (Or.inl ⟨by rfl, ?_⟩) ?_ ?_
  rotate_left
  · intro w'
    go_simp
    with_reducible rfl
  rotate_left
  · simp only [Act.put, List.setIfInBounds_toArray, List.set_cons_zero, List.set_cons_succ, i64_w, i32_w]
    rfl
  refine done_ (by kernel_rfl) ?_

  clear hHeld
  go_wp2_with fail
  have h3 := BR3.out.lt
  have h4 := BR4.out.lt
  have SZ : Aside0 ((dArr L (.slice T1 (bothL (r1 ++ q1)).length t1) (.slice T2 (bothL (r2 ++ q2)).length t2) z Q).size = 67) := ⟨dArr_size hL.out.len hQ.out.len _ _ _⟩
  exact bodyPost_ret (results_row_tmp (p := 4) (u := 5) (ty := 32) rfl _ _ (w.heap.size + 1 + 1) 32 _ _ rfl (BR5.out.setRow_ _) Try.underlying32 rfl (by rw [SZ.out]; kernel_rfl)) rfl ⟨T1, t1, T2, t2, rfl, Kd.R_lower (R_setRow C15.out (by omega) _) W3.out.size, Kd.R_lower (R_setRow C25.out (by omega) _) W4.out.size, below_setRow' W5.out (by omega) _⟩
theorem dig0 : Dig (outL [] 0) := by
  constructor
  · decide
  · decide
/-- What comes of two deltas joined: for the program and for the document the same. -/
theorem join_any (kk : Nat) (hk : 3200000 < kk) (L M P Q : List Int) (hL : Dig L) (hM : Dig M) (hP : Dig P) (hQ : Dig Q) (U1 : Option Addr) (u1 : Nat) (r1 : List S36) (U2 : Option Addr) (u2 : Nat) (r2 : List S36) (s : ByteArray) (V1 : Option Addr) (v1 : Nat) (q1 : List S36) (V2 : Option Addr) (v2 : Nat) (q2 : List S36) (z : ByteArray) (w : World)
    (hU1 : Kd.C k36 w U1 r1.length r1) (hu1 : r1.length ≤ u1) (hU2 : Kd.C k36 w U2 r2.length r2) (hu2 : r2.length ≤ u2) (hV1 : Kd.C k36 w V1 q1.length q1) (hv1 : q1.length ≤ v1) (hV2 : Kd.C k36 w V2 q2.length q2) (hv2 : q2.length ≤ v2)
    (m1 : r1.length ≤ 500000) (m2 : r2.length ≤ 500000) (n1 : q1.length ≤ 500000) (n2 : q2.length ≤ 500000)
    (hw1 : ∀ j : Nat, (Lit.int .i64 (rd_T36 (r1 ++ q1) (j : Int)).f0).wf = true) (hs1 : ∀ j : Nat, (rd_T36 (r1 ++ q1) (j : Int)).f1.size ≤ maxLen) (hw2 : ∀ j : Nat, (Lit.int .i64 (rd_T36 (r2 ++ q2) (j : Int)).f0).wf = true) (hs2 : ∀ j : Nat, (rd_T36 (r2 ++ q2) (j : Int)).f1.size ≤ maxLen) :
    ∃ (J : List Int) (j1 j2 : List S36) (zz : ByteArray) (QQ : List Int) (ec : Int), Dig J ∧ Dig QQ ∧ j1.length ≤ 1000000 ∧ j2.length ≤ 1000000 ∧ ∀ W, Below w.heap.size w W →
      (Calls Try.prog 19 #[.agg (dArr L (.slice U1 r1.length u1) (.slice U2 r2.length u2) s M), .agg (dArr P (.slice V1 q1.length v1) (.slice V2 q2.length v2) z Q)] W fun e w' => ∃ T1 t1 T2 t2, e = .returned (.tuple #[.agg (dArr J (.slice T1 j1.length t1) (.slice T2 j2.length t2) zz QQ), .int .i64 ec]) ∧ Kd.C k36 w' T1 j1.length j1 ∧ j1.length ≤ t1 ∧ Kd.C k36 w' T2 j2.length j2 ∧ j2.length ≤ t2 ∧ Below W.heap.size W w') ∧
      (Calls Try.prog 20 #[.agg (dArr L (.slice U1 r1.length u1) (.slice U2 r2.length u2) s M), .agg (dArr P (.slice V1 q1.length v1) (.slice V2 q2.length v2) z Q)] W fun e w' => ∃ T1 t1 T2 t2, e = .returned (.tuple #[.agg (dArr J (.slice T1 j1.length t1) (.slice T2 j2.length t2) zz QQ), .int .i64 ec]) ∧ Kd.C k36 w' T1 j1.length j1 ∧ j1.length ≤ t1 ∧ Kd.C k36 w' T2 j2.length j2 ∧ j2.length ≤ t2 ∧ Below W.heap.size W w') := by
  by_cases hc : P = emptySum
  · refine ⟨P, q1, q2, z, Q, 0, hP, hQ, by omega, by omega, fun W hW => ⟨?_, ?_⟩⟩
    · refine (join_empty L M P Q hL hM hP hQ U1 u1 r1 U2 u2 r2 s V1 v1 q1 V2 v2 q2 z W (Kd.C_below hU1 hW) hu1 (Kd.C_below hU2 hW) hu2 (Kd.C_below hV1 hW) hv1 (Kd.C_below hV2 hW) hv2 m1 m2 n1 n2 hc).mono ?_
      rintro e w' ⟨T1, t1, T2, t2, rfl, h1, h2, hb⟩
      exact ⟨T1, t1, T2, t2, rfl, (Kd.R_reads' h1).2.2, (Kd.R_reads' h1).2.1, (Kd.R_reads' h2).2.2, (Kd.R_reads' h2).2.1, hb⟩
    · refine (rjoin_empty L M P Q hL hM hP hQ U1 u1 r1 U2 u2 r2 s V1 v1 q1 V2 v2 q2 z W (Kd.C_below hU1 hW) hu1 (Kd.C_below hU2 hW) hu2 (Kd.C_below hV1 hW) hv1 (Kd.C_below hV2 hW) hv2 m1 m2 n1 n2 hc).mono ?_
      rintro e w' ⟨rfl, hb⟩
      exact ⟨V1, v1, V2, v2, rfl, Kd.C_below (Kd.C_below hV1 hW) hb, hv1, Kd.C_below (Kd.C_below hV2 hW) hb, hv2, hb⟩
  · by_cases hd : P = M
    · have e1 : (bothL (r1 ++ q1)).length ≤ 1000000 := by
        rw [← insAll_both]
        have := (insAll_ok (r1 ++ q1)).2
        rw [List.length_append] at this
        omega
      have e2 : (bothL (r2 ++ q2)).length ≤ 1000000 := by
        rw [← insAll_both]
        have := (insAll_ok (r2 ++ q2)).2
        rw [List.length_append] at this
        omega
      refine ⟨L, bothL (r1 ++ q1), bothL (r2 ++ q2), z, Q, 0, hL, hQ, e1, e2, fun W hW => ⟨?_, ?_⟩⟩
      · refine (join_both L M P Q hL hM hP hQ U1 u1 r1 U2 u2 r2 s V1 v1 q1 V2 v2 q2 z W (Kd.C_below hU1 hW) hu1 (Kd.C_below hU2 hW) hu2 (Kd.C_below hV1 hW) hv1 (Kd.C_below hV2 hW) hv2 m1 m2 n1 n2 hw1 hs1 hw2 hs2 hc hd).mono ?_
        rintro e w' ⟨T1, t1, T2, t2, rfl, h1, h2, hb⟩
        exact ⟨T1, t1, T2, t2, rfl, (Kd.R_reads' h1).2.2, (Kd.R_reads' h1).2.1, (Kd.R_reads' h2).2.2, (Kd.R_reads' h2).2.1, hb⟩
      · refine (rjoin_both kk L M P Q hL hM hP hQ U1 u1 r1 U2 u2 r2 s V1 v1 q1 V2 v2 q2 z W (Kd.C_below hU1 hW) hu1 (Kd.C_below hU2 hW) hu2 (Kd.C_below hV1 hW) hv1 (Kd.C_below hV2 hW) hv2 m1 m2 n1 n2 (refboth_f m1 n1 hk) (refboth_f m2 n2 hk) hc hd).mono ?_
        rintro e w' ⟨T1, t1, T2, t2, rfl, h1, h2, hb⟩
        exact ⟨T1, t1, T2, t2, rfl, (Kd.R_reads' h1).2.2, (Kd.R_reads' h1).2.1, (Kd.R_reads' h2).2.2, (Kd.R_reads' h2).2.1, hb⟩
    · refine ⟨outL [] 0, [], [], ⟨#[]⟩, outL [] 0, 23, dig0, dig0, by simp, by simp, fun W hW => ⟨?_, ?_⟩⟩
      · refine (join_none L M P Q hL hM hP hQ U1 u1 r1 U2 u2 r2 s V1 v1 q1 V2 v2 q2 z W (Kd.C_below hU1 hW) hu1 (Kd.C_below hU2 hW) hu2 (Kd.C_below hV1 hW) hv1 (Kd.C_below hV2 hW) hv2 m1 m2 n1 n2 hc hd).mono ?_
        rintro e w' ⟨rfl, hb⟩
        exact ⟨none, 0, none, 0, rfl, Kd.C_nil _ _, Nat.le_refl _, Kd.C_nil _ _, Nat.le_refl _, hb⟩
      · refine (rjoin_none L M P Q hL hM hP hQ U1 u1 r1 U2 u2 r2 s V1 v1 q1 V2 v2 q2 z W (Kd.C_below hU1 hW) hu1 (Kd.C_below hU2 hW) hu2 (Kd.C_below hV1 hW) hv1 (Kd.C_below hV2 hW) hv2 m1 m2 n1 n2 hc hd).mono ?_
        rintro e w' ⟨rfl, hb⟩
        exact ⟨none, 0, none, 0, rfl, Kd.C_nil _ _, Nat.le_refl _, Kd.C_nil _ _, Nat.le_refl _, hb⟩
end Go.Proofs.Ytoljjgabgdifbaa.H


namespace Go.Proofs.Ytoljjgabgdifbaa.H
open Go.RowKit Go.Proofs.YtoljjgabgdifbaaW.PrintWords Go.Proofs.YtoljjgabgdifbaaW.PrintLast Go.Proofs.YtoljjgabgdifbaaW.PrintMore
set_option linter.unusedVariables false
set_option linter.unusedSimpArgs false

/-- How many bytes, about, writes have. -/
def ww : List S36 → Nat
  | [] => 0
  | x :: l => 8 + x.f1.size + ww l
theorem ww_append : ∀ l m : List S36, ww (l ++ m) = ww l + ww m
  | [], m => by simp [ww]
  | x :: l, m => by
    have := ww_append l m
    simp only [List.cons_append, ww]
    omega
theorem ww_le (l : List S36) (i : Nat) : ww (l.take i) ≤ ww l := by
  have := ww_append (l.take i) (l.drop i)
  rw [List.take_append_drop] at this
  omega
theorem ww_len : ∀ l : List S36, 8 * l.length ≤ ww l
  | [] => Nat.le_refl _
  | x :: l => by
    have := ww_len l
    simp only [ww, List.length_cons]
    omega
theorem ww_step {l : List S36} {i : Nat} (h : i < l.length) : ww (l.take (i + 1)) = ww (l.take i) + (8 + (rd_T36 l (i : Int)).f1.size) := by
  have e : rd_T36 l (i : Int) = l[i] := by simp [rd_T36, List.getD_eq_getElem?_getD, List.getElem?_eq_getElem h]
  rw [List.take_add_one, List.getElem?_eq_getElem h, ww_append, e]
  simp [ww]
theorem ww_at {l : List S36} {i : Nat} : (rd_T36 l (i : Int)).f1.size ≤ ww l := by
  by_cases h : i < l.length
  · have h1 := ww_step h
    have h2 := ww_le l (i + 1)
    omega
  · have e : rd_T36 l (i : Int) = z36 := by
      unfold rd_T36
      rw [Int.toNat_natCast, List.getD_eq_getElem?_getD, List.getElem?_eq_none (by omega), Option.getD_none]
    rw [e]
    exact Nat.zero_le _
set_option maxRecDepth 100000 in
set_option maxHeartbeats 8000000 in
theorem wide_calls (L M : List Int) (hL : Dig L) (hM : Dig M) (A : Option Addr) (c : Nat) (l : List S36) (B : Option Addr) (d : Nat) (m : List S36) (s : ByteArray) (w : World)
    (hA : Kd.C k36 w A l.length l) (hc : l.length ≤ c) (hB : Kd.C k36 w B m.length m) (hd : m.length ≤ d) (hlen : s.size + ww l + ww m ≤ 1152921504606846976) :
    Calls Try.prog 17 #[.agg (dArr L (.slice A l.length c) (.slice B m.length d) s M)] w fun e w' => e = .returned (.bool (decide (s.size + ww l + ww m > 3000))) ∧ Below w.heap.size w w' := by
  have BX := Blk.new w 32 (dArr L (.slice A l.length c) (.slice B m.length d) s M)
  have W0 := (Below.refl w.heap.size w).alloc (Nat.le_refl _) (.cells (dArr L (.slice A l.length c) (.slice B m.length d) s M) 32)
  generalize hw0 : w.alloc (.cells (dArr L (.slice A l.length c) (.slice B m.length d) s M) 32) = w0 at BX W0
  have s0 : w0.heap.size = w.heap.size + 1 := by rw [← hw0, sz]
  have HW0 := Aside0.mk hw0
  clear hw0
  obtain ⟨x32, x33, x34⟩ := dArr_mid L M hL.len (.slice A l.length c) (.slice B m.length d) s
  have q32 : w0.cell? ⟨w.heap.size, 32, none⟩ = some (.slice A l.length c) := (BX.cell 32).trans x32
  have q33 : w0.cell? ⟨w.heap.size, 33, none⟩ = some (.slice B m.length d) := (BX.cell 33).trans x33
  have q34 : w0.cell? ⟨w.heap.size, 34, none⟩ = some (.string s) := (BX.cell 34).trans x34
  have HQ := Blk.new w0 30 #[.slice A l.length c, .slice B m.length d]
  have HW := W0.alloc (by omega) (.cells #[.slice A l.length c, .slice B m.length d] 30)
  generalize hw1 : w0.alloc (.cells #[.slice A l.length c, .slice B m.length d] 30) = w1 at HQ HW
  have HW1 := Aside0.mk hw1
  clear hw1
  have HLEN := Aside0.mk (show s.size + ww l + ww m ≤ 1152921504606846976 ∧ 8 * l.length ≤ ww l ∧ 8 * m.length ≤ ww m from ⟨hlen, ww_len l, ww_len m⟩)
  have S0 := Aside0.mk s0
  rw [s0] at HQ
  have HQ := Aside0.mk HQ
  have HW := Aside0.mk HW
  have HA := Aside0.mk hA
  have HB := Aside0.mk hB
  have GTR : Aside0 (decide (3000 < (s.size : Int) + (ww l : Int) + (ww m : Int)) = decide (s.size + ww l + ww m > 3000)) := ⟨decide_eq_decide.2 (by omega)⟩
  clear hA hB BX W0 x32 x33 x34 hlen
  go_enter Try.func17, Try.ntmps17
  go_wp2_with (first | (rw [show w.alloc (.cells (dArr L (.slice A l.length c) (.slice B m.length d) s M) 32) = w0 from HW0.out]) | (rw [show w0.alloc (.cells #[.slice A l.length c, .slice B m.length d] 30) = w1 from HW1.out]) | (rw [show w0.heap.size = w.heap.size + 1 from S0.out]))
  go_loopg [3, 17] 2 (fun gk v3 v17 wl => ∃ i : Nat, v17 = .int .i64 i ∧ Aside0 (i + gk = 2) ∧ (i = 0 ∧ v3 = .int .i64 (s.size : Int) ∨ i = 1 ∧ v3 = .int .i64 ((s.size + ww l : Nat) : Int) ∨ i = 2 ∧ v3 = .int .i64 ((s.size + ww l + ww m : Nat) : Int)) ∧ Aside0 (Below w.heap.size w wl) ∧ Aside0 (Blk wl (w.heap.size + 1) 30 #[.slice A l.length c, .slice B m.length d]))
  case atStart => exact ⟨0, rfl, ⟨rfl⟩, Or.inl ⟨rfl, rfl⟩, HW, HQ⟩
  case round =>
    clear q32 q33 q34 HW HQ
    obtain ⟨i, rfl, hi, hv, HW, HQ⟩ := hrel
    have q0 : wr.cell? ⟨w.heap.size + 1, 0, none⟩ = some (.slice A l.length c) := HQ.out.cell 0
    have q1 : wr.cell? ⟨w.heap.size + 1, 1, none⟩ = some (.slice B m.length d) := HQ.out.cell 1
    rcases hv with ⟨rfl, rfl⟩ | ⟨rfl, rfl⟩ | ⟨rfl, rfl⟩
    · skip
      go_wp2_with fail
      go_loopg [3, 23] l.length (fun gk v3 v23 wl => ∃ j : Nat, v23 = .int .i64 j ∧ v3 = .int .i64 ((s.size + ww (l.take j) : Nat) : Int) ∧ Aside0 (j + gk = l.length) ∧ Aside0 (Below w.heap.size w wl) ∧ Aside0 (Blk wl (w.heap.size + 1) 30 #[.slice A l.length c, .slice B m.length d]))
      case atStart => exact ⟨0, rfl, by simp [ww], ⟨by omega⟩, HW, HQ⟩
      case round =>
        clear q0 q1 HW HQ
        obtain ⟨j, rfl, rfl, hj, HW, HQ⟩ := hrel
        by_cases hlt : j < l.length
        · have lt1 := eq_true (show (j : Int) < (l.length : Int) by omega)
          have lt0 := eq_true (show (0 : Int) ≤ (j : Int) by omega)
          have w1 : IntKind.i64.wrap ((j : Int) + 1) = (j : Int) + 1 := IntWalk.i64_in _ (by have := HLEN.out; omega)
          obtain ⟨ad, eA, y1, y2⟩ := at_T36 (Kd.C_below HA.out HW.out) (j : Int) (by omega) (by omega)
          cases eA
          rw [Int.toNat_natCast] at y1 y2
          have es : ww (l.take (j + 1)) = ww (l.take j) + (8 + (rd_T36 l (j : Int)).f1.size) := ww_step hlt
          have hle : ww (l.take (j + 1)) ≤ ww l := ww_le _ _
          generalize (rd_T36 l (j : Int)).f0 = x at y1
          generalize (rd_T36 l (j : Int)).f1 = t at y2 es
          have w2 : IntKind.i64.wrap (8 + (t.size : Int)) = 8 + (t.size : Int) := IntWalk.i64_in _ (by have := HLEN.out; omega)
          have W3 : Aside0 (wrap64 ((s.size : Int) + (ww (l.take j) : Int) + (8 + (t.size : Int))) = ((s.size + ww (l.take (j + 1)) : Nat) : Int)) := ⟨by
            rw [es, ← i64_w, IntWalk.i64_in _ (by have := HLEN.out; omega)]
            omega⟩
          have BK := Blk.new wr 36 #[.int .i64 x, .string t]
          have BWa := HW.out.alloc HW.out.size (.cells #[.int .i64 x, .string t] 36)
          have HQa := HQ.out.alloc (.cells #[.int .i64 x, .string t] 36)
          generalize hwa : wr.alloc (.cells #[.int .i64 x, .string t] 36) = wa at BK BWa HQa
          have HWA := Aside0.mk hwa
          clear hwa
          have k1 : wa.cell? ⟨wr.heap.size, 1, none⟩ = some (.string t) := BK.cell 1
          have BWa := Aside0.mk BWa
          have HQa := Aside0.mk HQa
          clear BK es hle
          go_wp2_with (rw [show wr.alloc (.cells #[.int .i64 x, .string t] 36) = wa from HWA.out])
          go_roundg (l.length - (j + 1))
          case measure => have := hj.out; omega
          case rel => exact ⟨j + 1, by go_num, congrArg _ W3.out, ⟨by have := hj.out; omega⟩, BWa, HQa⟩
        · obtain rfl : j = l.length := by have := hj.out; omega
          have lt1 := eq_false hlt
          have lt2 := eq_false (show ¬ (l.length : Int) < (l.length : Int) by omega)
          rw [List.take_length]
          clear hlt hj
          go_wp2_with fail
          go_roundg 1
          case measure => have := hi.out; omega
          case rel => exact ⟨1, rfl, ⟨rfl⟩, Or.inr (Or.inl ⟨rfl, by simp⟩), HW, HQ⟩
    · skip
      go_wp2_with fail
      go_loopg [3, 23] m.length (fun gk v3 v23 wl => ∃ j : Nat, v23 = .int .i64 j ∧ v3 = .int .i64 ((s.size + ww l + ww (m.take j) : Nat) : Int) ∧ Aside0 (j + gk = m.length) ∧ Aside0 (Below w.heap.size w wl) ∧ Aside0 (Blk wl (w.heap.size + 1) 30 #[.slice A l.length c, .slice B m.length d]))
      case atStart => exact ⟨0, rfl, by simp [ww], ⟨by omega⟩, HW, HQ⟩
      case round =>
        clear q0 q1 HW HQ
        obtain ⟨j, rfl, rfl, hj, HW, HQ⟩ := hrel
        by_cases hlt : j < m.length
        · have lt1 := eq_true (show (j : Int) < (m.length : Int) by omega)
          have lt0 := eq_true (show (0 : Int) ≤ (j : Int) by omega)
          have w1 : IntKind.i64.wrap ((j : Int) + 1) = (j : Int) + 1 := IntWalk.i64_in _ (by have := HLEN.out; omega)
          obtain ⟨ad, eA, y1, y2⟩ := at_T36 (Kd.C_below HB.out HW.out) (j : Int) (by omega) (by omega)
          cases eA
          rw [Int.toNat_natCast] at y1 y2
          have es : ww (m.take (j + 1)) = ww (m.take j) + (8 + (rd_T36 m (j : Int)).f1.size) := ww_step hlt
          have hle : ww (m.take (j + 1)) ≤ ww m := ww_le _ _
          generalize (rd_T36 m (j : Int)).f0 = x at y1
          generalize (rd_T36 m (j : Int)).f1 = t at y2 es
          have w2 : IntKind.i64.wrap (8 + (t.size : Int)) = 8 + (t.size : Int) := IntWalk.i64_in _ (by have := HLEN.out; omega)
          have W3 : Aside0 (wrap64 ((s.size : Int) + (ww l : Int) + (ww (m.take j) : Int) + (8 + (t.size : Int))) = ((s.size + ww l + ww (m.take (j + 1)) : Nat) : Int)) := ⟨by
            rw [es, ← i64_w, IntWalk.i64_in _ (by have := HLEN.out; omega)]
            omega⟩
          have BK := Blk.new wr 36 #[.int .i64 x, .string t]
          have BWa := HW.out.alloc HW.out.size (.cells #[.int .i64 x, .string t] 36)
          have HQa := HQ.out.alloc (.cells #[.int .i64 x, .string t] 36)
          generalize hwa : wr.alloc (.cells #[.int .i64 x, .string t] 36) = wa at BK BWa HQa
          have HWA := Aside0.mk hwa
          clear hwa
          have k1 : wa.cell? ⟨wr.heap.size, 1, none⟩ = some (.string t) := BK.cell 1
          have BWa := Aside0.mk BWa
          have HQa := Aside0.mk HQa
          clear BK es hle
          go_wp2_with (rw [show wr.alloc (.cells #[.int .i64 x, .string t] 36) = wa from HWA.out])
          go_roundg (m.length - (j + 1))
          case measure => have := hj.out; omega
          case rel => exact ⟨j + 1, by go_num, congrArg _ W3.out, ⟨by have := hj.out; omega⟩, BWa, HQa⟩
        · obtain rfl : j = m.length := by have := hj.out; omega
          have lt1 := eq_false hlt
          have lt2 := eq_false (show ¬ (m.length : Int) < (m.length : Int) by omega)
          rw [List.take_length]
          clear hlt hj
          go_wp2_with fail
          go_roundg 0
          case measure => have := hi.out; omega
          case rel => exact ⟨2, rfl, ⟨rfl⟩, Or.inr (Or.inr ⟨rfl, by simp⟩), HW, HQ⟩
    · go_wp2_with fail
      go_ret
      exact ⟨congrArg (fun b => Ending.returned (Value.bool b)) GTR.out, HW.out⟩
end Go.Proofs.Ytoljjgabgdifbaa.H


namespace Go.Proofs.Ytoljjgabgdifbaa.H
open Go.RowKit Go.Proofs.YtoljjgabgdifbaaW.PrintWords Go.Proofs.YtoljjgabgdifbaaW.PrintLast Go.Proofs.YtoljjgabgdifbaaW.PrintMore
set_option linter.unusedVariables false
set_option linter.unusedSimpArgs false

theorem loadAt_row {w : World} {g : Nat} {t ty : TypeId} {cs : Array Value} {d : TypeDesc} (hg : Blk w g t cs) (hu : Try.prog.underlying ty = some d) (hd : d.isRow = true) (hi : (Try.prog.info? ty).map (·.size) = some cs.size) :
    (Instr.loadAt ty (.pointer (some ⟨g, 0, none⟩))).run Try.prog w = .ok (.agg cs) w := by
  have z := run_loadAt_mid (P := Try.prog) w g 0 ty cs.toList d (fun j v hv => by rw [Nat.zero_add, hg.cell, ← hv]; simp) hu hd (by rw [Array.length_toList]; exact hi)
  simpa using z
end Go.Proofs.Ytoljjgabgdifbaa.H

