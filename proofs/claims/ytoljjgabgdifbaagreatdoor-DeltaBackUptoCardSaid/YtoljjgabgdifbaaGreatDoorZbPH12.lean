/- Layer 35 of the program: what became of an image. -/
import Derived.Test.YtoljjgabgdifbaaGreatDoorZbPH10toH11
namespace Go.Proofs.YtoljjgabgdifbaaGreatDoor.H
open Go.RowKit Go.Proofs.YtoljjgabgdifbaaGreatDoorW.PrintWords Go.Proofs.YtoljjgabgdifbaaGreatDoorW.PrintLast Go.Proofs.YtoljjgabgdifbaaGreatDoorW.PrintMore
set_option linter.unusedVariables false
set_option linter.unusedSimpArgs false

section
variable {P : Program}
theorem op_builds {oi : Oper} {a : Act} {w : World} (t : TypeId) (parts : Array (Nat × Operand)) (ho : oi.op = .build t parts) (cells : Array Value) (h : P.built t (parts.map fun (i, x) => (i, a.eval x)).toList = some cells) :
    (execOp a.eval oi).run P w = .ok (.value (.agg cells)) w := by
  unfold execOp
  simp only [ho, Sem.run_bind, run_build w t _ cells h, Result.andThen_ok]
  rfl
end
theorem dArr_one (L M : List Int) (A1 : Option Addr) (n1 c1 : Nat) (A2 : Option Addr) (n2 c2 : Nat) (s : ByteArray) : (dArr L (.slice A1 n1 c1) (.slice A2 n2 c2) s M).all (·.oneCell') = true := by
  rw [Array.all_eq_true_iff_forall_mem]
  intro v hv
  simp only [dArr, List.mem_toArray, List.mem_append, List.mem_cons, List.not_mem_nil, or_false] at hv
  rcases hv with (hv | hv | hv | hv) | hv
  · exact nums_one8 _ v hv
  · subst hv; rfl
  · subst hv; rfl
  · subst hv; rfl
  · exact nums_one8 _ v hv
/-- The image that a delta is told of: the given one, or that without anything. -/
def aOf (a b : S24) : S24 := if b.f0.length < a.f0.length ∨ b.f1.length < a.f1.length then ⟨[], [], ⟨#[]⟩⟩ else a
/-- What a delta holds, told at a world. -/
def DeltaAt (w : World) (base : Nat) (v : Value) (L : List Int) (r1 r2 : List S46) (s : ByteArray) (M : List Int) : Prop :=
  ∃ A1 c1 A2 c2, v = .agg (dArr L (.slice A1 r1.length c1) (.slice A2 r2.length c2) s M) ∧ Kd.R k46 46 w base (fun _ => True) (.slice A1 r1.length c1) r1 ∧ Kd.R k46 46 w base (fun _ => True) (.slice A2 r2.length c2) r2
theorem DeltaAt.below {w w' : World} {base : Nat} {v : Value} {L : List Int} {r1 r2 : List S46} {s : ByteArray} {M : List Int} (h : DeltaAt w base v L r1 r2 s M) (hb : Below w.heap.size w w') : DeltaAt w' base v L r1 r2 s M := by
  obtain ⟨A1, c1, A2, c2, e, h1, h2⟩ := h
  exact ⟨A1, c1, A2, c2, e, Kd.R_below h1 hb, Kd.R_below h2 hb⟩
theorem R_setRowT {α : Type} {d : Kd α} {e : Nat} {w : World} {base : Nat} {ok : Nat → Prop} {v : Value} {xs : List α} (h : Kd.R d e w base ok v xs) {g t : Nat} {cells : Array Value} (hb : Blk w g t cells) (ht : ∀ q, q ∈ e :: d.E → q ≠ t) (cs : Array Value) : Kd.R d e (w.setRow g cs) base ok v xs :=
  Kd.R_mono (Kd.R_step (Kd.R_types h hb ht) (fun k hk _ => setRow_other w g k cs hk.2)) (fun k hk => hk.1)
theorem DeltaAt.setRow {w : World} {base : Nat} {v : Value} {L : List Int} {r1 r2 : List S46} {s : ByteArray} {M : List Int} (h : DeltaAt w base v L r1 r2 s M) {g t : Nat} {cells : Array Value} (hb : Blk w g t cells) (ht : ∀ q, q ∈ 46 :: k46.E → q ≠ t) (cs : Array Value) : DeltaAt (w.setRow g cs) base v L r1 r2 s M := by
  obtain ⟨A1, c1, A2, c2, e, h1, h2⟩ := h
  exact ⟨A1, c1, A2, c2, e, R_setRowT h1 hb ht cs, R_setRowT h2 hb ht cs⟩
theorem z31 : Tryz.zeroCells31 = dArr (outL [] 0) (.slice none 0 0) (.slice none 0 0) ⟨#[]⟩ (outL [] 0) := by kernel_rfl
theorem R_setRow {α : Type} {d : Kd α} {e : Nat} {w : World} {base : Nat} {ok : Nat → Prop} {v : Value} {xs : List α} (h : Kd.R d e w base ok v xs) {g : Nat} (hg : g < base) (cs : Array Value) : Kd.R d e (w.setRow g cs) base ok v xs :=
  Kd.R_mono (Kd.R_step (Kd.R_bound h) (fun k hk _ => setRow_other w g k cs (by have := hk.2.1; omega))) (fun k hk => hk.1)

set_option maxRecDepth 100000 in
set_option maxHeartbeats 8000000 in
theorem of_calls (k : Nat) (A0 : Option Addr) (c0 : Nat) (A1 : Option Addr) (c1 : Nat) (a : S24) (P0 : Option Addr) (p0 : Nat) (P1 : Option Addr) (p1 : Nat) (b : S24) (r1 r2 : List S46) (w : World)
    (hA0 : Kd.C Kd.string w A0 a.f0.length a.f0) (ha0 : a.f0.length ≤ c0) (hA1 : Kd.C Kd.string w A1 a.f1.length a.f1) (ha1 : a.f1.length ≤ c1)
    (hP0 : Kd.C Kd.string w P0 b.f0.length b.f0) (hp0 : b.f0.length ≤ p0) (hP1 : Kd.C Kd.string w P1 b.f1.length b.f1) (hp1 : b.f1.length ≤ p1)
    (hLa : (imageL a.f0 a.f1 a.f2).length ≤ 140737488355328) (hLb : (imageL b.f0 b.f1 b.f2).length ≤ 140737488355328)
    (hr1 : delta_writes.f k (aOf a b).f0 b.f0 = some r1) (hr2 : delta_writes.f k (aOf a b).f1 b.f1 = some r2) :
    Calls Tryz.prog 7 #[.agg #[.slice A0 a.f0.length c0, .slice A1 a.f1.length c1, .string a.f2], .agg #[.slice P0 b.f0.length p0, .slice P1 b.f1.length p1, .string b.f2]] w fun e w' => ∃ A1 c1 A2 c2, e = .returned (.agg (dArr (imgSum (aOf a b).f0 (aOf a b).f1 (aOf a b).f2) (.slice A1 r1.length c1) (.slice A2 r2.length c2) b.f2 (imgSum b.f0 b.f1 b.f2))) ∧ Kd.R k46 46 w' w.heap.size (fun _ => True) (.slice A1 r1.length c1) r1 ∧ Kd.R k46 46 w' w.heap.size (fun _ => True) (.slice A2 r2.length c2) r2 ∧ Below w.heap.size w w' := by
  have BA := Blk.new w 24 #[.slice A0 a.f0.length c0, .slice A1 a.f1.length c1, .string a.f2]
  have BB := Blk.new (w.alloc (.cells #[.slice A0 a.f0.length c0, .slice A1 a.f1.length c1, .string a.f2] 24)) 24 #[.slice P0 b.f0.length p0, .slice P1 b.f1.length p1, .string b.f2]
  have BD := Blk.new ((w.alloc (.cells #[.slice A0 a.f0.length c0, .slice A1 a.f1.length c1, .string a.f2] 24)).alloc (.cells #[.slice P0 b.f0.length p0, .slice P1 b.f1.length p1, .string b.f2] 24)) 31 (dArr (outL [] 0) (.slice none 0 0) (.slice none 0 0) ⟨#[]⟩ (outL [] 0))
  have BA := (BA.alloc (.cells #[.slice P0 b.f0.length p0, .slice P1 b.f1.length p1, .string b.f2] 24)).alloc (.cells (dArr (outL [] 0) (.slice none 0 0) (.slice none 0 0) ⟨#[]⟩ (outL [] 0)) 31)
  have BB := BB.alloc (.cells (dArr (outL [] 0) (.slice none 0 0) (.slice none 0 0) ⟨#[]⟩ (outL [] 0)) 31)
  have W0 := (((Below.refl w.heap.size w).alloc (Nat.le_refl _) (.cells #[.slice A0 a.f0.length c0, .slice A1 a.f1.length c1, .string a.f2] 24)).alloc (by simp) (.cells #[.slice P0 b.f0.length p0, .slice P1 b.f1.length p1, .string b.f2] 24)).alloc (by simp; omega) (.cells (dArr (outL [] 0) (.slice none 0 0) (.slice none 0 0) ⟨#[]⟩ (outL [] 0)) 31)
  rw [sz] at BB
  rw [sz, sz] at BD
  generalize hw0 : (((w.alloc (.cells #[.slice A0 a.f0.length c0, .slice A1 a.f1.length c1, .string a.f2] 24)).alloc (.cells #[.slice P0 b.f0.length p0, .slice P1 b.f1.length p1, .string b.f2] 24)).alloc (.cells (dArr (outL [] 0) (.slice none 0 0) (.slice none 0 0) ⟨#[]⟩ (outL [] 0)) 31)) = w0 at BA BB BD W0
  have HW0 := Aside0.mk hw0
  clear hw0
  have qa0 : w0.cell? ⟨w.heap.size, 0, none⟩ = some (.slice A0 a.f0.length c0) := BA.cell 0
  have qa1 : w0.cell? ⟨w.heap.size, 1, none⟩ = some (.slice A1 a.f1.length c1) := BA.cell 1
  have qb0 : w0.cell? ⟨w.heap.size + 1, 0, none⟩ = some (.slice P0 b.f0.length p0) := BB.cell 0
  have qb1 : w0.cell? ⟨w.heap.size + 1, 1, none⟩ = some (.slice P1 b.f1.length p1) := BB.cell 1
  have BA := Aside0.mk BA
  have BB := Aside0.mk BB
  have BD := Aside0.mk BD
  have W0 := Aside0.mk W0
  obtain ⟨x, hx⟩ : ∃ x, x = aOf a b := ⟨_, rfl⟩
  rw [← hx] at hr1 hr2 ⊢
  by_cases t1 : b.f0.length < a.f0.length
  · have tb := eq_true (show (b.f0.length : Int) < (a.f0.length : Int) by omega)
    have ex : x = ⟨[], [], ⟨#[]⟩⟩ := by rw [hx, aOf, if_pos (Or.inl t1)]
    go_enter Tryz.func7, Tryz.ntmps7
    go_wp2_with (first | (rw [show (((w.alloc (.cells #[.slice A0 a.f0.length c0, .slice A1 a.f1.length c1, .string a.f2] 24)).alloc (.cells #[.slice P0 b.f0.length p0, .slice P1 b.f1.length p1, .string b.f2] 24)).alloc (.cells Tryz.zeroCells31 31)) = w0 from (by rw [z31]; exact HW0.out)]) | (refine wpList_store_row rfl 24 (.tmp 2) (.tmp 21) rfl w.heap.size #[.slice none 0 0, .slice none 0 0, .string ⟨#[]⟩] rfl rfl 24 _ BA.out (by kernel_rfl) (by kernel_rfl) (by kernel_rfl) ?_))
    obtain ⟨X0, x0, X1, x1, hX0, hx0, hX1, hx1, BA0⟩ : ∃ X0 x0 X1 x1, Kd.C Kd.string w X0 x.f0.length x.f0 ∧ x.f0.length ≤ x0 ∧ Kd.C Kd.string w X1 x.f1.length x.f1 ∧ x.f1.length ≤ x1 ∧ Blk (w0.setRow w.heap.size #[.slice none 0 0, .slice none 0 0, .string ⟨#[]⟩]) w.heap.size 24 #[.slice X0 x.f0.length x0, .slice X1 x.f1.length x1, .string x.f2] := by
      rw [ex]
      exact ⟨none, 0, none, 0, Kd.C_nil _ _, Nat.le_refl _, Kd.C_nil _ _, Nat.le_refl _, BA.out.setRow_ _⟩
    have hLx : (imageL x.f0 x.f1 x.f2).length ≤ 140737488355328 := by rw [ex]; decide +kernel
    have BB0 := BB.out.setRow_far (k := w.heap.size) (by omega) #[.slice none 0 0, .slice none 0 0, .string ⟨#[]⟩]
    have BD0 := BD.out.setRow_far (k := w.heap.size) (by omega) #[.slice none 0 0, .slice none 0 0, .string ⟨#[]⟩]
    have W0 := below_setRow' W0.out (Nat.le_refl _) #[.slice none 0 0, .slice none 0 0, .string ⟨#[]⟩]
    generalize w0.setRow w.heap.size #[.slice none 0 0, .slice none 0 0, .string ⟨#[]⟩] = w2 at BA0 BB0 BD0 W0 ⊢
    clear ex hx qa0 qa1 qb0 qb1 HW0 BA BB BD
    have BA0 := Aside0.mk BA0.drew
    have BB0 := Aside0.mk BB0.drew
    have BD0 := Aside0.mk BD0.drew
    have W0 := Aside0.mk (below_drew W0)
    refine start_ (n := 18) (S := fun w' => Blk w' w.heap.size 24 #[.slice X0 x.f0.length x0, .slice X1 x.f1.length x1, .string x.f2] ∧ Blk w' (w.heap.size + 1) 24 #[.slice P0 b.f0.length p0, .slice P1 b.f1.length p1, .string b.f2] ∧ w'.cell? ⟨w.heap.size, 0, none⟩ = some (.slice X0 x.f0.length x0) ∧ w'.cell? ⟨w.heap.size, 1, none⟩ = some (.slice X1 x.f1.length x1) ∧ w'.cell? ⟨w.heap.size + 1, 0, none⟩ = some (.slice P0 b.f0.length p0) ∧ w'.cell? ⟨w.heap.size + 1, 1, none⟩ = some (.slice P1 b.f1.length p1) ∧ w'.cell? ⟨w.heap.size + 1, 2, none⟩ = some (.string b.f2)) (ds := [17]) #[false, false, false, false, false, false, false, false, false, false, false, false, false, false, false, false, false, false] (by kernel_rfl) rfl rfl ⟨BA0.out, BB0.out, (BA0.out.cell 0), (BA0.out.cell 1), (BB0.out.cell 0), (BB0.out.cell 1), (BB0.out.cell 2)⟩ (fun hHeld => ?_)
    refine pure_ (i := 2) (N := some 24) (v := ?_) (a' := ?_) #[false, false, true, false, false, false, false, false, false, false, false, false, false, false, false, false, false, false] rfl rfl (by kernel_rfl) (fun _ _ _ h => h) (Or.inl ⟨by rfl, ?_⟩) ?_ ?_
    rotate_left
    · intro w'
      go_simp
      with_reducible rfl
    rotate_left
    · simp only [Act.put, List.setIfInBounds_toArray, List.set_cons_zero, List.set_cons_succ, i64_w, i32_w]
      rfl
    refine pure_ (i := 4) (N := some 26) (v := ?_) (a' := ?_) #[false, false, true, false, true, false, false, false, false, false, false, false, false, false, false, false, false, false] rfl rfl (by kernel_rfl) (fun _ _ _ h => h) (Or.inl ⟨by rfl, ?_⟩) ?_ ?_
    rotate_left
    · intro w'
      go_simp
      with_reducible rfl
    rotate_left
    · simp only [Act.put, List.setIfInBounds_toArray, List.set_cons_zero, List.set_cons_succ, i64_w, i32_w]
      rfl
    refine pure_ (i := 7) (N := some 29) (v := ?_) (a' := ?_) #[false, false, true, false, true, false, false, true, false, false, false, false, false, false, false, false, false, false] rfl rfl (by kernel_rfl) (fun _ _ _ h => h) (Or.inl ⟨by rfl, ?_⟩) ?_ ?_
    rotate_left
    · intro w'
      go_simp
      with_reducible rfl
    rotate_left
    · simp only [Act.put, List.setIfInBounds_toArray, List.set_cons_zero, List.set_cons_succ, i64_w, i32_w]
      rfl
    refine pure_ (i := 9) (N := some 31) (v := ?_) (a' := ?_) #[false, false, true, false, true, false, false, true, false, true, false, false, false, false, false, false, false, false] rfl rfl (by kernel_rfl) (fun _ _ _ h => h) (Or.inl ⟨by rfl, ?_⟩) ?_ ?_
    rotate_left
    · intro w'
      go_simp
      with_reducible rfl
    rotate_left
    · simp only [Act.put, List.setIfInBounds_toArray, List.set_cons_zero, List.set_cons_succ, i64_w, i32_w]
      rfl
    refine pure_ (i := 12) (N := some 34) (v := ?_) (a' := ?_) #[false, false, true, false, true, false, false, true, false, true, false, false, true, false, false, false, false, false] rfl rfl (by kernel_rfl) (fun _ _ _ h => h) (Or.inl ⟨by rfl, ?_⟩) ?_ ?_
    rotate_left
    · intro w'
      go_simp
      with_reducible rfl
    rotate_left
    · simp only [Act.put, List.setIfInBounds_toArray, List.set_cons_zero, List.set_cons_succ, i64_w, i32_w]
      rfl
    refine take_ (i := 0) (N := some 22) (v := ?_) (a' := ?_) #[true, false, true, false, true, false, false, true, false, true, false, false, true, false, false, false, false, false] rfl rfl (by kernel_rfl) (fun _ _ _ h => h) (Or.inl ⟨by rfl, ?_⟩) hHeld ?_ ?_
    rotate_left
    · rintro w' ⟨s0, s1, s2, s3, s4, s5, s6⟩
      refine row_loads 24 (.tmp 2) ?_ w.heap.size ?_ s0 Tryz.underlying24 ?_ ?_
      · rfl
      · rfl
      · rfl
      · kernel_rfl
    rotate_left
    · simp only [Act.put, List.setIfInBounds_toArray, List.set_cons_zero, List.set_cons_succ, i64_w, i32_w]
      rfl
    refine take_ (i := 3) (N := some 25) (v := ?_) (a' := ?_) #[true, false, true, true, true, false, false, true, false, true, false, false, true, false, false, false, false, false] rfl rfl (by kernel_rfl) (fun _ _ _ h => h) (Or.inl ⟨by rfl, ?_⟩) hHeld ?_ ?_
    rotate_left
    · rintro w' ⟨s0, s1, s2, s3, s4, s5, s6⟩
      go_simp
      with_reducible rfl
    rotate_left
    · simp only [Act.put, List.setIfInBounds_toArray, List.set_cons_zero, List.set_cons_succ, i64_w, i32_w]
      rfl
    refine take_ (i := 5) (N := some 27) (v := ?_) (a' := ?_) #[true, false, true, true, true, true, false, true, false, true, false, false, true, false, false, false, false, false] rfl rfl (by kernel_rfl) (fun _ _ _ h => h) (Or.inl ⟨by rfl, ?_⟩) hHeld ?_ ?_
    rotate_left
    · rintro w' ⟨s0, s1, s2, s3, s4, s5, s6⟩
      go_simp
      with_reducible rfl
    rotate_left
    · simp only [Act.put, List.setIfInBounds_toArray, List.set_cons_zero, List.set_cons_succ, i64_w, i32_w]
      rfl
    refine take_ (i := 8) (N := some 30) (v := ?_) (a' := ?_) #[true, false, true, true, true, true, false, true, true, true, false, false, true, false, false, false, false, false] rfl rfl (by kernel_rfl) (fun _ _ _ h => h) (Or.inl ⟨by rfl, ?_⟩) hHeld ?_ ?_
    rotate_left
    · rintro w' ⟨s0, s1, s2, s3, s4, s5, s6⟩
      go_simp
      with_reducible rfl
    rotate_left
    · simp only [Act.put, List.setIfInBounds_toArray, List.set_cons_zero, List.set_cons_succ, i64_w, i32_w]
      rfl
    refine take_ (i := 10) (N := some 32) (v := ?_) (a' := ?_) #[true, false, true, true, true, true, false, true, true, true, true, false, true, false, false, false, false, false] rfl rfl (by kernel_rfl) (fun _ _ _ h => h) (Or.inl ⟨by rfl, ?_⟩) hHeld ?_ ?_
    rotate_left
    · rintro w' ⟨s0, s1, s2, s3, s4, s5, s6⟩
      go_simp
      with_reducible rfl
    rotate_left
    · simp only [Act.put, List.setIfInBounds_toArray, List.set_cons_zero, List.set_cons_succ, i64_w, i32_w]
      rfl
    refine take_ (i := 13) (N := some 35) (v := ?_) (a' := ?_) #[true, false, true, true, true, true, false, true, true, true, true, false, true, true, false, false, false, false] rfl rfl (by kernel_rfl) (fun _ _ _ h => h) (Or.inl ⟨by rfl, ?_⟩) hHeld ?_ ?_
    rotate_left
    · rintro w' ⟨s0, s1, s2, s3, s4, s5, s6⟩
      go_simp
      with_reducible rfl
    rotate_left
    · simp only [Act.put, List.setIfInBounds_toArray, List.set_cons_zero, List.set_cons_succ, i64_w, i32_w]
      rfl
    refine take_ (i := 14) (N := some 36) (v := ?_) (a' := ?_) #[true, false, true, true, true, true, false, true, true, true, true, false, true, true, true, false, false, false] rfl rfl (by kernel_rfl) (fun _ _ _ h => h) (Or.inl ⟨by rfl, ?_⟩) hHeld ?_ ?_
    rotate_left
    · rintro w' ⟨s0, s1, s2, s3, s4, s5, s6⟩
      refine row_loads 24 (.tmp 3) ?_ (w.heap.size + 1) ?_ s1 Tryz.underlying24 ?_ ?_
      · rfl
      · rfl
      · rfl
      · kernel_rfl
    rotate_left
    · simp only [Act.put, List.setIfInBounds_toArray, List.set_cons_zero, List.set_cons_succ, i64_w, i32_w]
      rfl
    refine one_ (i := 1) (N := some 23) #[true, true, true, true, true, true, false, true, true, true, true, false, true, true, true, false, false, false] rfl rfl (by kernel_rfl) (by decide) (fun K hK => ?_)
    refine goes_ Tryz.func15 (by kernel_rfl) rfl #[.agg #[.slice X0 x.f0.length x0, .slice X1 x.f1.length x1, .string x.f2]] (by rfl) rfl rfl (by simp only [List.map_toArray, List.map_cons, List.map_nil]; rfl) ?_
    with_reducible refine (imageSum_calls X0 x0 x.f0 X1 x1 x.f1 x.f2 _ (Kd.C_below hX0 W0.out) hx0 (Kd.C_below hX1 W0.out) hx1 hLx).mono ?_
    rintro e w3 ⟨rfl, hb⟩
    refine ⟨_, rfl, ?_⟩
    have BA1 := Aside0.mk (BA0.out.below hb BA0.out.lt)
    have BB1 := Aside0.mk (BB0.out.below hb BB0.out.lt)
    have BD1 := Aside0.mk (BD0.out.below hb BD0.out.lt)
    have W1 := Aside0.mk (below_then W0.out W0.out.size hb)
    clear hb
    refine hK.out _ _ ⟨BA1.out, BB1.out, (BA1.out.cell 0), (BA1.out.cell 1), (BB1.out.cell 0), (BB1.out.cell 1), (BB1.out.cell 2)⟩ (fun hHeld => ?_)
    clear hK K
    refine norm_ (a' := ?_) ?_ ?_
    rotate_left
    · show Act.put _ (some 23) _ = _
      simp only [Act.put, List.setIfInBounds_toArray, List.set_cons_zero, List.set_cons_succ, i64_w, i32_w]
      rfl
    refine one_ (i := 6) (N := some 28) #[true, true, true, true, true, true, true, true, true, true, true, false, true, true, true, false, false, false] rfl rfl (by kernel_rfl) (by decide) (fun K hK => ?_)
    refine goes_ Tryz.func16 (by kernel_rfl) rfl #[.slice X0 x.f0.length x0, .slice P0 b.f0.length p0] (by rfl) rfl rfl (by simp only [List.map_toArray, List.map_cons, List.map_nil]; rfl) ?_
    with_reducible refine (delta_writes.calls k X0 x0 x.f0 P0 p0 b.f0 r1 _ (Kd.C_below hX0 W1.out) hx0 (Kd.C_below hP0 W1.out) hp0 hr1).mono ?_
    rintro e w4 ⟨v1, rfl, hR, hb⟩
    refine ⟨_, rfl, ?_⟩
    obtain ⟨U1, u1, rfl⟩ := Kd.R_slice hR
    have BA2 := Aside0.mk (BA1.out.below hb BA1.out.lt)
    have BB2 := Aside0.mk (BB1.out.below hb BB1.out.lt)
    have BD2 := Aside0.mk (BD1.out.below hb BD1.out.lt)
    have W2 := Aside0.mk (below_then W1.out W1.out.size hb)
    have C12 := Aside0.mk hR
    clear hb hR
    refine hK.out _ _ ⟨BA2.out, BB2.out, (BA2.out.cell 0), (BA2.out.cell 1), (BB2.out.cell 0), (BB2.out.cell 1), (BB2.out.cell 2)⟩ (fun hHeld => ?_)
    clear hK K
    refine norm_ (a' := ?_) ?_ ?_
    rotate_left
    · show Act.put _ (some 28) _ = _
      simp only [Act.put, List.setIfInBounds_toArray, List.set_cons_zero, List.set_cons_succ, i64_w, i32_w]
      rfl
    refine one_ (i := 11) (N := some 33) #[true, true, true, true, true, true, true, true, true, true, true, true, true, true, true, false, false, false] rfl rfl (by kernel_rfl) (by decide) (fun K hK => ?_)
    refine goes_ Tryz.func16 (by kernel_rfl) rfl #[.slice X1 x.f1.length x1, .slice P1 b.f1.length p1] (by rfl) rfl rfl (by simp only [List.map_toArray, List.map_cons, List.map_nil]; rfl) ?_
    with_reducible refine (delta_writes.calls k X1 x1 x.f1 P1 p1 b.f1 r2 _ (Kd.C_below hX1 W2.out) hx1 (Kd.C_below hP1 W2.out) hp1 hr2).mono ?_
    rintro e w5 ⟨v2, rfl, hR, hb⟩
    refine ⟨_, rfl, ?_⟩
    obtain ⟨U2, u2, rfl⟩ := Kd.R_slice hR
    have BA3 := Aside0.mk (BA2.out.below hb BA2.out.lt)
    have BB3 := Aside0.mk (BB2.out.below hb BB2.out.lt)
    have BD3 := Aside0.mk (BD2.out.below hb BD2.out.lt)
    have W3 := Aside0.mk (below_then W2.out W2.out.size hb)
    have C13 := Aside0.mk (Kd.R_below C12.out hb)
    have C23 := Aside0.mk hR
    clear hb hR
    refine hK.out _ _ ⟨BA3.out, BB3.out, (BA3.out.cell 0), (BA3.out.cell 1), (BB3.out.cell 0), (BB3.out.cell 1), (BB3.out.cell 2)⟩ (fun hHeld => ?_)
    clear hK K
    refine norm_ (a' := ?_) ?_ ?_
    rotate_left
    · show Act.put _ (some 33) _ = _
      simp only [Act.put, List.setIfInBounds_toArray, List.set_cons_zero, List.set_cons_succ, i64_w, i32_w]
      rfl
    refine one_ (i := 15) (N := some 37) #[true, true, true, true, true, true, true, true, true, true, true, true, true, true, true, true, false, false] rfl rfl (by kernel_rfl) (by decide) (fun K hK => ?_)
    refine goes_ Tryz.func15 (by kernel_rfl) rfl #[.agg #[.slice P0 b.f0.length p0, .slice P1 b.f1.length p1, .string b.f2]] (by rfl) rfl rfl (by simp only [List.map_toArray, List.map_cons, List.map_nil]; rfl) ?_
    with_reducible refine (imageSum_calls P0 p0 b.f0 P1 p1 b.f1 b.f2 _ (Kd.C_below hP0 W3.out) hp0 (Kd.C_below hP1 W3.out) hp1 hLb).mono ?_
    rintro e w6 ⟨rfl, hb⟩
    refine ⟨_, rfl, ?_⟩
    have BA4 := Aside0.mk (BA3.out.below hb BA3.out.lt)
    have BB4 := Aside0.mk (BB3.out.below hb BB3.out.lt)
    have BD4 := Aside0.mk (BD3.out.below hb BD3.out.lt)
    have W4 := Aside0.mk (below_then W3.out W3.out.size hb)
    have C14 := Aside0.mk (Kd.R_below C13.out hb)
    have C24 := Aside0.mk (Kd.R_below C23.out hb)
    clear hb
    refine hK.out _ _ ⟨BA4.out, BB4.out, (BA4.out.cell 0), (BA4.out.cell 1), (BB4.out.cell 0), (BB4.out.cell 1), (BB4.out.cell 2)⟩ (fun hHeld => ?_)
    clear hK K
    refine norm_ (a' := ?_) ?_ ?_
    rotate_left
    · show Act.put _ (some 37) _ = _
      simp only [Act.put, List.setIfInBounds_toArray, List.set_cons_zero, List.set_cons_succ, i64_w, i32_w]
      rfl
    refine pure_ (i := 16) (N := some 38) (v := ?_) (a' := ?_) #[true, true, true, true, true, true, true, true, true, true, true, true, true, true, true, true, true, false] rfl rfl (by kernel_rfl) (fun _ _ _ h => h) (Or.inl ⟨by rfl, ?_⟩) ?_ ?_
    rotate_left
    · intro w'
      refine op_builds 31 #[(0, .tmp 23), (1, .tmp 28), (2, .tmp 33), (3, .tmp 35), (4, .tmp 37)] ?_ (dArr (imgSum x.f0 x.f1 x.f2) (.slice U1 r1.length u1) (.slice U2 r2.length u2) b.f2 (imgSum b.f0 b.f1 b.f2)) ((congrArg (Tryz.prog.built 31) ?_).trans (built_delta (imgSum_len x.f0 x.f1 x.f2) (imgSum_len b.f0 b.f1 b.f2) U1 r1.length u1 U2 r2.length u2 b.f2))
      · rfl
      · simp only [List.map_toArray, List.map_cons, List.map_nil]
        rfl
    rotate_left
    · simp only [Act.put, List.setIfInBounds_toArray, List.set_cons_zero, List.set_cons_succ, i64_w, i32_w]
      rfl
    refine last_ (i := 17) (N := none) #[true, true, true, true, true, true, true, true, true, true, true, true, true, true, true, true, true, true] rfl rfl (by kernel_rfl) (by decide) (fun K hK => ?_)
    refine skip_ (w1 := w6.setRow (w.heap.size + 1 + 1) (dArr (imgSum x.f0 x.f1 x.f2) (.slice U1 r1.length u1) (.slice U2 r2.length u2) b.f2 (imgSum b.f0 b.f1 b.f2))) (by rfl) rfl ?_ ?_
    · exact row_stores 31 (.tmp 4) (.tmp 38) rfl (w.heap.size + 1 + 1) _ rfl rfl BD4.out (by rw [dArr_size (imgSum_len _ _ _) (imgSum_len _ _ _)]; kernel_rfl) (by rw [dArr_size (imgSum_len _ _ _) (imgSum_len _ _ _), dArr_size (outL_len _ _) (outL_len _ _)]) (dArr_one _ _ _ _ _ _ _ _ _)
    refine hK.out _ _ ?_
    clear hK K
    refine done_ (by kernel_rfl) ?_

    clear hHeld
    go_wp2_with fail
    exact bodyPost_ret (results_cell_row (p := 4) (ty := 31) rfl _ _ (w.heap.size + 1 + 1) 31 _ (0, 0) _ rfl (BD4.out.setRow_ _) Tryz.underlying31 rfl (by rw [dArr_size (imgSum_len _ _ _) (imgSum_len _ _ _)]; kernel_rfl)) rfl ⟨U1, u1, U2, u2, rfl, Kd.R_lower (R_setRow C14.out (by have := BD1.out.lt; omega) _) W1.out.size, Kd.R_lower (R_setRow C24.out (by have := BD2.out.lt; omega) _) W2.out.size, below_setRow' W4.out (by omega) _⟩
  · have tb := eq_false (show ¬ (b.f0.length : Int) < (a.f0.length : Int) by omega)
    by_cases t2 : b.f1.length < a.f1.length
    · have tc := eq_true (show (b.f1.length : Int) < (a.f1.length : Int) by omega)
      have ex : x = ⟨[], [], ⟨#[]⟩⟩ := by rw [hx, aOf, if_pos (Or.inr t2)]
      go_enter Tryz.func7, Tryz.ntmps7
      go_wp2_with (first | (rw [show (((w.alloc (.cells #[.slice A0 a.f0.length c0, .slice A1 a.f1.length c1, .string a.f2] 24)).alloc (.cells #[.slice P0 b.f0.length p0, .slice P1 b.f1.length p1, .string b.f2] 24)).alloc (.cells Tryz.zeroCells31 31)) = w0 from (by rw [z31]; exact HW0.out)]) | (refine wpList_store_row rfl 24 (.tmp 2) (.tmp 21) rfl w.heap.size #[.slice none 0 0, .slice none 0 0, .string ⟨#[]⟩] rfl rfl 24 _ BA.out (by kernel_rfl) (by kernel_rfl) (by kernel_rfl) ?_))
      obtain ⟨X0, x0, X1, x1, hX0, hx0, hX1, hx1, BA0⟩ : ∃ X0 x0 X1 x1, Kd.C Kd.string w X0 x.f0.length x.f0 ∧ x.f0.length ≤ x0 ∧ Kd.C Kd.string w X1 x.f1.length x.f1 ∧ x.f1.length ≤ x1 ∧ Blk (w0.setRow w.heap.size #[.slice none 0 0, .slice none 0 0, .string ⟨#[]⟩]) w.heap.size 24 #[.slice X0 x.f0.length x0, .slice X1 x.f1.length x1, .string x.f2] := by
        rw [ex]
        exact ⟨none, 0, none, 0, Kd.C_nil _ _, Nat.le_refl _, Kd.C_nil _ _, Nat.le_refl _, BA.out.setRow_ _⟩
      have hLx : (imageL x.f0 x.f1 x.f2).length ≤ 140737488355328 := by rw [ex]; decide +kernel
      have BB0 := BB.out.setRow_far (k := w.heap.size) (by omega) #[.slice none 0 0, .slice none 0 0, .string ⟨#[]⟩]
      have BD0 := BD.out.setRow_far (k := w.heap.size) (by omega) #[.slice none 0 0, .slice none 0 0, .string ⟨#[]⟩]
      have W0 := below_setRow' W0.out (Nat.le_refl _) #[.slice none 0 0, .slice none 0 0, .string ⟨#[]⟩]
      generalize w0.setRow w.heap.size #[.slice none 0 0, .slice none 0 0, .string ⟨#[]⟩] = w2 at BA0 BB0 BD0 W0 ⊢
      clear ex hx qa0 qa1 qb0 qb1 HW0 BA BB BD
      have BA0 := Aside0.mk BA0.drew
      have BB0 := Aside0.mk BB0.drew
      have BD0 := Aside0.mk BD0.drew
      have W0 := Aside0.mk (below_drew W0)
      refine start_ (n := 18) (S := fun w' => Blk w' w.heap.size 24 #[.slice X0 x.f0.length x0, .slice X1 x.f1.length x1, .string x.f2] ∧ Blk w' (w.heap.size + 1) 24 #[.slice P0 b.f0.length p0, .slice P1 b.f1.length p1, .string b.f2] ∧ w'.cell? ⟨w.heap.size, 0, none⟩ = some (.slice X0 x.f0.length x0) ∧ w'.cell? ⟨w.heap.size, 1, none⟩ = some (.slice X1 x.f1.length x1) ∧ w'.cell? ⟨w.heap.size + 1, 0, none⟩ = some (.slice P0 b.f0.length p0) ∧ w'.cell? ⟨w.heap.size + 1, 1, none⟩ = some (.slice P1 b.f1.length p1) ∧ w'.cell? ⟨w.heap.size + 1, 2, none⟩ = some (.string b.f2)) (ds := [17]) #[false, false, false, false, false, false, false, false, false, false, false, false, false, false, false, false, false, false] (by kernel_rfl) rfl rfl ⟨BA0.out, BB0.out, (BA0.out.cell 0), (BA0.out.cell 1), (BB0.out.cell 0), (BB0.out.cell 1), (BB0.out.cell 2)⟩ (fun hHeld => ?_)
      refine pure_ (i := 2) (N := some 24) (v := ?_) (a' := ?_) #[false, false, true, false, false, false, false, false, false, false, false, false, false, false, false, false, false, false] rfl rfl (by kernel_rfl) (fun _ _ _ h => h) (Or.inl ⟨by rfl, ?_⟩) ?_ ?_
      rotate_left
      · intro w'
        go_simp
        with_reducible rfl
      rotate_left
      · simp only [Act.put, List.setIfInBounds_toArray, List.set_cons_zero, List.set_cons_succ, i64_w, i32_w]
        rfl
      refine pure_ (i := 4) (N := some 26) (v := ?_) (a' := ?_) #[false, false, true, false, true, false, false, false, false, false, false, false, false, false, false, false, false, false] rfl rfl (by kernel_rfl) (fun _ _ _ h => h) (Or.inl ⟨by rfl, ?_⟩) ?_ ?_
      rotate_left
      · intro w'
        go_simp
        with_reducible rfl
      rotate_left
      · simp only [Act.put, List.setIfInBounds_toArray, List.set_cons_zero, List.set_cons_succ, i64_w, i32_w]
        rfl
      refine pure_ (i := 7) (N := some 29) (v := ?_) (a' := ?_) #[false, false, true, false, true, false, false, true, false, false, false, false, false, false, false, false, false, false] rfl rfl (by kernel_rfl) (fun _ _ _ h => h) (Or.inl ⟨by rfl, ?_⟩) ?_ ?_
      rotate_left
      · intro w'
        go_simp
        with_reducible rfl
      rotate_left
      · simp only [Act.put, List.setIfInBounds_toArray, List.set_cons_zero, List.set_cons_succ, i64_w, i32_w]
        rfl
      refine pure_ (i := 9) (N := some 31) (v := ?_) (a' := ?_) #[false, false, true, false, true, false, false, true, false, true, false, false, false, false, false, false, false, false] rfl rfl (by kernel_rfl) (fun _ _ _ h => h) (Or.inl ⟨by rfl, ?_⟩) ?_ ?_
      rotate_left
      · intro w'
        go_simp
        with_reducible rfl
      rotate_left
      · simp only [Act.put, List.setIfInBounds_toArray, List.set_cons_zero, List.set_cons_succ, i64_w, i32_w]
        rfl
      refine pure_ (i := 12) (N := some 34) (v := ?_) (a' := ?_) #[false, false, true, false, true, false, false, true, false, true, false, false, true, false, false, false, false, false] rfl rfl (by kernel_rfl) (fun _ _ _ h => h) (Or.inl ⟨by rfl, ?_⟩) ?_ ?_
      rotate_left
      · intro w'
        go_simp
        with_reducible rfl
      rotate_left
      · simp only [Act.put, List.setIfInBounds_toArray, List.set_cons_zero, List.set_cons_succ, i64_w, i32_w]
        rfl
      refine take_ (i := 0) (N := some 22) (v := ?_) (a' := ?_) #[true, false, true, false, true, false, false, true, false, true, false, false, true, false, false, false, false, false] rfl rfl (by kernel_rfl) (fun _ _ _ h => h) (Or.inl ⟨by rfl, ?_⟩) hHeld ?_ ?_
      rotate_left
      · rintro w' ⟨s0, s1, s2, s3, s4, s5, s6⟩
        refine row_loads 24 (.tmp 2) ?_ w.heap.size ?_ s0 Tryz.underlying24 ?_ ?_
        · rfl
        · rfl
        · rfl
        · kernel_rfl
      rotate_left
      · simp only [Act.put, List.setIfInBounds_toArray, List.set_cons_zero, List.set_cons_succ, i64_w, i32_w]
        rfl
      refine take_ (i := 3) (N := some 25) (v := ?_) (a' := ?_) #[true, false, true, true, true, false, false, true, false, true, false, false, true, false, false, false, false, false] rfl rfl (by kernel_rfl) (fun _ _ _ h => h) (Or.inl ⟨by rfl, ?_⟩) hHeld ?_ ?_
      rotate_left
      · rintro w' ⟨s0, s1, s2, s3, s4, s5, s6⟩
        go_simp
        with_reducible rfl
      rotate_left
      · simp only [Act.put, List.setIfInBounds_toArray, List.set_cons_zero, List.set_cons_succ, i64_w, i32_w]
        rfl
      refine take_ (i := 5) (N := some 27) (v := ?_) (a' := ?_) #[true, false, true, true, true, true, false, true, false, true, false, false, true, false, false, false, false, false] rfl rfl (by kernel_rfl) (fun _ _ _ h => h) (Or.inl ⟨by rfl, ?_⟩) hHeld ?_ ?_
      rotate_left
      · rintro w' ⟨s0, s1, s2, s3, s4, s5, s6⟩
        go_simp
        with_reducible rfl
      rotate_left
      · simp only [Act.put, List.setIfInBounds_toArray, List.set_cons_zero, List.set_cons_succ, i64_w, i32_w]
        rfl
      refine take_ (i := 8) (N := some 30) (v := ?_) (a' := ?_) #[true, false, true, true, true, true, false, true, true, true, false, false, true, false, false, false, false, false] rfl rfl (by kernel_rfl) (fun _ _ _ h => h) (Or.inl ⟨by rfl, ?_⟩) hHeld ?_ ?_
      rotate_left
      · rintro w' ⟨s0, s1, s2, s3, s4, s5, s6⟩
        go_simp
        with_reducible rfl
      rotate_left
      · simp only [Act.put, List.setIfInBounds_toArray, List.set_cons_zero, List.set_cons_succ, i64_w, i32_w]
        rfl
      refine take_ (i := 10) (N := some 32) (v := ?_) (a' := ?_) #[true, false, true, true, true, true, false, true, true, true, true, false, true, false, false, false, false, false] rfl rfl (by kernel_rfl) (fun _ _ _ h => h) (Or.inl ⟨by rfl, ?_⟩) hHeld ?_ ?_
      rotate_left
      · rintro w' ⟨s0, s1, s2, s3, s4, s5, s6⟩
        go_simp
        with_reducible rfl
      rotate_left
      · simp only [Act.put, List.setIfInBounds_toArray, List.set_cons_zero, List.set_cons_succ, i64_w, i32_w]
        rfl
      refine take_ (i := 13) (N := some 35) (v := ?_) (a' := ?_) #[true, false, true, true, true, true, false, true, true, true, true, false, true, true, false, false, false, false] rfl rfl (by kernel_rfl) (fun _ _ _ h => h) (Or.inl ⟨by rfl, ?_⟩) hHeld ?_ ?_
      rotate_left
      · rintro w' ⟨s0, s1, s2, s3, s4, s5, s6⟩
        go_simp
        with_reducible rfl
      rotate_left
      · simp only [Act.put, List.setIfInBounds_toArray, List.set_cons_zero, List.set_cons_succ, i64_w, i32_w]
        rfl
      refine take_ (i := 14) (N := some 36) (v := ?_) (a' := ?_) #[true, false, true, true, true, true, false, true, true, true, true, false, true, true, true, false, false, false] rfl rfl (by kernel_rfl) (fun _ _ _ h => h) (Or.inl ⟨by rfl, ?_⟩) hHeld ?_ ?_
      rotate_left
      · rintro w' ⟨s0, s1, s2, s3, s4, s5, s6⟩
        refine row_loads 24 (.tmp 3) ?_ (w.heap.size + 1) ?_ s1 Tryz.underlying24 ?_ ?_
        · rfl
        · rfl
        · rfl
        · kernel_rfl
      rotate_left
      · simp only [Act.put, List.setIfInBounds_toArray, List.set_cons_zero, List.set_cons_succ, i64_w, i32_w]
        rfl
      refine one_ (i := 1) (N := some 23) #[true, true, true, true, true, true, false, true, true, true, true, false, true, true, true, false, false, false] rfl rfl (by kernel_rfl) (by decide) (fun K hK => ?_)
      refine goes_ Tryz.func15 (by kernel_rfl) rfl #[.agg #[.slice X0 x.f0.length x0, .slice X1 x.f1.length x1, .string x.f2]] (by rfl) rfl rfl (by simp only [List.map_toArray, List.map_cons, List.map_nil]; rfl) ?_
      with_reducible refine (imageSum_calls X0 x0 x.f0 X1 x1 x.f1 x.f2 _ (Kd.C_below hX0 W0.out) hx0 (Kd.C_below hX1 W0.out) hx1 hLx).mono ?_
      rintro e w3 ⟨rfl, hb⟩
      refine ⟨_, rfl, ?_⟩
      have BA1 := Aside0.mk (BA0.out.below hb BA0.out.lt)
      have BB1 := Aside0.mk (BB0.out.below hb BB0.out.lt)
      have BD1 := Aside0.mk (BD0.out.below hb BD0.out.lt)
      have W1 := Aside0.mk (below_then W0.out W0.out.size hb)
      clear hb
      refine hK.out _ _ ⟨BA1.out, BB1.out, (BA1.out.cell 0), (BA1.out.cell 1), (BB1.out.cell 0), (BB1.out.cell 1), (BB1.out.cell 2)⟩ (fun hHeld => ?_)
      clear hK K
      refine norm_ (a' := ?_) ?_ ?_
      rotate_left
      · show Act.put _ (some 23) _ = _
        simp only [Act.put, List.setIfInBounds_toArray, List.set_cons_zero, List.set_cons_succ, i64_w, i32_w]
        rfl
      refine one_ (i := 6) (N := some 28) #[true, true, true, true, true, true, true, true, true, true, true, false, true, true, true, false, false, false] rfl rfl (by kernel_rfl) (by decide) (fun K hK => ?_)
      refine goes_ Tryz.func16 (by kernel_rfl) rfl #[.slice X0 x.f0.length x0, .slice P0 b.f0.length p0] (by rfl) rfl rfl (by simp only [List.map_toArray, List.map_cons, List.map_nil]; rfl) ?_
      with_reducible refine (delta_writes.calls k X0 x0 x.f0 P0 p0 b.f0 r1 _ (Kd.C_below hX0 W1.out) hx0 (Kd.C_below hP0 W1.out) hp0 hr1).mono ?_
      rintro e w4 ⟨v1, rfl, hR, hb⟩
      refine ⟨_, rfl, ?_⟩
      obtain ⟨U1, u1, rfl⟩ := Kd.R_slice hR
      have BA2 := Aside0.mk (BA1.out.below hb BA1.out.lt)
      have BB2 := Aside0.mk (BB1.out.below hb BB1.out.lt)
      have BD2 := Aside0.mk (BD1.out.below hb BD1.out.lt)
      have W2 := Aside0.mk (below_then W1.out W1.out.size hb)
      have C12 := Aside0.mk hR
      clear hb hR
      refine hK.out _ _ ⟨BA2.out, BB2.out, (BA2.out.cell 0), (BA2.out.cell 1), (BB2.out.cell 0), (BB2.out.cell 1), (BB2.out.cell 2)⟩ (fun hHeld => ?_)
      clear hK K
      refine norm_ (a' := ?_) ?_ ?_
      rotate_left
      · show Act.put _ (some 28) _ = _
        simp only [Act.put, List.setIfInBounds_toArray, List.set_cons_zero, List.set_cons_succ, i64_w, i32_w]
        rfl
      refine one_ (i := 11) (N := some 33) #[true, true, true, true, true, true, true, true, true, true, true, true, true, true, true, false, false, false] rfl rfl (by kernel_rfl) (by decide) (fun K hK => ?_)
      refine goes_ Tryz.func16 (by kernel_rfl) rfl #[.slice X1 x.f1.length x1, .slice P1 b.f1.length p1] (by rfl) rfl rfl (by simp only [List.map_toArray, List.map_cons, List.map_nil]; rfl) ?_
      with_reducible refine (delta_writes.calls k X1 x1 x.f1 P1 p1 b.f1 r2 _ (Kd.C_below hX1 W2.out) hx1 (Kd.C_below hP1 W2.out) hp1 hr2).mono ?_
      rintro e w5 ⟨v2, rfl, hR, hb⟩
      refine ⟨_, rfl, ?_⟩
      obtain ⟨U2, u2, rfl⟩ := Kd.R_slice hR
      have BA3 := Aside0.mk (BA2.out.below hb BA2.out.lt)
      have BB3 := Aside0.mk (BB2.out.below hb BB2.out.lt)
      have BD3 := Aside0.mk (BD2.out.below hb BD2.out.lt)
      have W3 := Aside0.mk (below_then W2.out W2.out.size hb)
      have C13 := Aside0.mk (Kd.R_below C12.out hb)
      have C23 := Aside0.mk hR
      clear hb hR
      refine hK.out _ _ ⟨BA3.out, BB3.out, (BA3.out.cell 0), (BA3.out.cell 1), (BB3.out.cell 0), (BB3.out.cell 1), (BB3.out.cell 2)⟩ (fun hHeld => ?_)
      clear hK K
      refine norm_ (a' := ?_) ?_ ?_
      rotate_left
      · show Act.put _ (some 33) _ = _
        simp only [Act.put, List.setIfInBounds_toArray, List.set_cons_zero, List.set_cons_succ, i64_w, i32_w]
        rfl
      refine one_ (i := 15) (N := some 37) #[true, true, true, true, true, true, true, true, true, true, true, true, true, true, true, true, false, false] rfl rfl (by kernel_rfl) (by decide) (fun K hK => ?_)
      refine goes_ Tryz.func15 (by kernel_rfl) rfl #[.agg #[.slice P0 b.f0.length p0, .slice P1 b.f1.length p1, .string b.f2]] (by rfl) rfl rfl (by simp only [List.map_toArray, List.map_cons, List.map_nil]; rfl) ?_
      with_reducible refine (imageSum_calls P0 p0 b.f0 P1 p1 b.f1 b.f2 _ (Kd.C_below hP0 W3.out) hp0 (Kd.C_below hP1 W3.out) hp1 hLb).mono ?_
      rintro e w6 ⟨rfl, hb⟩
      refine ⟨_, rfl, ?_⟩
      have BA4 := Aside0.mk (BA3.out.below hb BA3.out.lt)
      have BB4 := Aside0.mk (BB3.out.below hb BB3.out.lt)
      have BD4 := Aside0.mk (BD3.out.below hb BD3.out.lt)
      have W4 := Aside0.mk (below_then W3.out W3.out.size hb)
      have C14 := Aside0.mk (Kd.R_below C13.out hb)
      have C24 := Aside0.mk (Kd.R_below C23.out hb)
      clear hb
      refine hK.out _ _ ⟨BA4.out, BB4.out, (BA4.out.cell 0), (BA4.out.cell 1), (BB4.out.cell 0), (BB4.out.cell 1), (BB4.out.cell 2)⟩ (fun hHeld => ?_)
      clear hK K
      refine norm_ (a' := ?_) ?_ ?_
      rotate_left
      · show Act.put _ (some 37) _ = _
        simp only [Act.put, List.setIfInBounds_toArray, List.set_cons_zero, List.set_cons_succ, i64_w, i32_w]
        rfl
      refine pure_ (i := 16) (N := some 38) (v := ?_) (a' := ?_) #[true, true, true, true, true, true, true, true, true, true, true, true, true, true, true, true, true, false] rfl rfl (by kernel_rfl) (fun _ _ _ h => h) (Or.inl ⟨by rfl, ?_⟩) ?_ ?_
      rotate_left
      · intro w'
        refine op_builds 31 #[(0, .tmp 23), (1, .tmp 28), (2, .tmp 33), (3, .tmp 35), (4, .tmp 37)] ?_ (dArr (imgSum x.f0 x.f1 x.f2) (.slice U1 r1.length u1) (.slice U2 r2.length u2) b.f2 (imgSum b.f0 b.f1 b.f2)) ((congrArg (Tryz.prog.built 31) ?_).trans (built_delta (imgSum_len x.f0 x.f1 x.f2) (imgSum_len b.f0 b.f1 b.f2) U1 r1.length u1 U2 r2.length u2 b.f2))
        · rfl
        · simp only [List.map_toArray, List.map_cons, List.map_nil]
          rfl
      rotate_left
      · simp only [Act.put, List.setIfInBounds_toArray, List.set_cons_zero, List.set_cons_succ, i64_w, i32_w]
        rfl
      refine last_ (i := 17) (N := none) #[true, true, true, true, true, true, true, true, true, true, true, true, true, true, true, true, true, true] rfl rfl (by kernel_rfl) (by decide) (fun K hK => ?_)
      refine skip_ (w1 := w6.setRow (w.heap.size + 1 + 1) (dArr (imgSum x.f0 x.f1 x.f2) (.slice U1 r1.length u1) (.slice U2 r2.length u2) b.f2 (imgSum b.f0 b.f1 b.f2))) (by rfl) rfl ?_ ?_
      · exact row_stores 31 (.tmp 4) (.tmp 38) rfl (w.heap.size + 1 + 1) _ rfl rfl BD4.out (by rw [dArr_size (imgSum_len _ _ _) (imgSum_len _ _ _)]; kernel_rfl) (by rw [dArr_size (imgSum_len _ _ _) (imgSum_len _ _ _), dArr_size (outL_len _ _) (outL_len _ _)]) (dArr_one _ _ _ _ _ _ _ _ _)
      refine hK.out _ _ ?_
      clear hK K
      refine done_ (by kernel_rfl) ?_

      clear hHeld
      go_wp2_with fail
      exact bodyPost_ret (results_cell_row (p := 4) (ty := 31) rfl _ _ (w.heap.size + 1 + 1) 31 _ (0, 0) _ rfl (BD4.out.setRow_ _) Tryz.underlying31 rfl (by rw [dArr_size (imgSum_len _ _ _) (imgSum_len _ _ _)]; kernel_rfl)) rfl ⟨U1, u1, U2, u2, rfl, Kd.R_lower (R_setRow C14.out (by have := BD1.out.lt; omega) _) W1.out.size, Kd.R_lower (R_setRow C24.out (by have := BD2.out.lt; omega) _) W2.out.size, below_setRow' W4.out (by omega) _⟩
    · have tc := eq_false (show ¬ (b.f1.length : Int) < (a.f1.length : Int) by omega)
      have ex : x = a := by rw [hx, aOf, if_neg (by omega)]
      go_enter Tryz.func7, Tryz.ntmps7
      go_wp2_with (rw [show (((w.alloc (.cells #[.slice A0 a.f0.length c0, .slice A1 a.f1.length c1, .string a.f2] 24)).alloc (.cells #[.slice P0 b.f0.length p0, .slice P1 b.f1.length p1, .string b.f2] 24)).alloc (.cells Tryz.zeroCells31 31)) = w0 from (by rw [z31]; exact HW0.out)])
      obtain ⟨X0, x0, X1, x1, hX0, hx0, hX1, hx1, BA0⟩ : ∃ X0 x0 X1 x1, Kd.C Kd.string w X0 x.f0.length x.f0 ∧ x.f0.length ≤ x0 ∧ Kd.C Kd.string w X1 x.f1.length x.f1 ∧ x.f1.length ≤ x1 ∧ Blk w0 w.heap.size 24 #[.slice X0 x.f0.length x0, .slice X1 x.f1.length x1, .string x.f2] := by
        rw [ex]
        exact ⟨A0, c0, A1, c1, hA0, ha0, hA1, ha1, BA.out⟩
      have hLx : (imageL x.f0 x.f1 x.f2).length ≤ 140737488355328 := by rw [ex]; exact hLa
      clear ex hx qa0 qa1 qb0 qb1 HW0 BA
      have BA0 := Aside0.mk BA0.drew
      have BB0 := Aside0.mk BB.out.drew
      have BD0 := Aside0.mk BD.out.drew
      have W0 := Aside0.mk (below_drew W0.out)
      clear BB BD
      refine start_ (n := 18) (S := fun w' => Blk w' w.heap.size 24 #[.slice X0 x.f0.length x0, .slice X1 x.f1.length x1, .string x.f2] ∧ Blk w' (w.heap.size + 1) 24 #[.slice P0 b.f0.length p0, .slice P1 b.f1.length p1, .string b.f2] ∧ w'.cell? ⟨w.heap.size, 0, none⟩ = some (.slice X0 x.f0.length x0) ∧ w'.cell? ⟨w.heap.size, 1, none⟩ = some (.slice X1 x.f1.length x1) ∧ w'.cell? ⟨w.heap.size + 1, 0, none⟩ = some (.slice P0 b.f0.length p0) ∧ w'.cell? ⟨w.heap.size + 1, 1, none⟩ = some (.slice P1 b.f1.length p1) ∧ w'.cell? ⟨w.heap.size + 1, 2, none⟩ = some (.string b.f2)) (ds := [17]) #[false, false, false, false, false, false, false, false, false, false, false, false, false, false, false, false, false, false] (by kernel_rfl) rfl rfl ⟨BA0.out, BB0.out, (BA0.out.cell 0), (BA0.out.cell 1), (BB0.out.cell 0), (BB0.out.cell 1), (BB0.out.cell 2)⟩ (fun hHeld => ?_)
      refine pure_ (i := 2) (N := some 24) (v := ?_) (a' := ?_) #[false, false, true, false, false, false, false, false, false, false, false, false, false, false, false, false, false, false] rfl rfl (by kernel_rfl) (fun _ _ _ h => h) (Or.inl ⟨by rfl, ?_⟩) ?_ ?_
      rotate_left
      · intro w'
        go_simp
        with_reducible rfl
      rotate_left
      · simp only [Act.put, List.setIfInBounds_toArray, List.set_cons_zero, List.set_cons_succ, i64_w, i32_w]
        rfl
      refine pure_ (i := 4) (N := some 26) (v := ?_) (a' := ?_) #[false, false, true, false, true, false, false, false, false, false, false, false, false, false, false, false, false, false] rfl rfl (by kernel_rfl) (fun _ _ _ h => h) (Or.inl ⟨by rfl, ?_⟩) ?_ ?_
      rotate_left
      · intro w'
        go_simp
        with_reducible rfl
      rotate_left
      · simp only [Act.put, List.setIfInBounds_toArray, List.set_cons_zero, List.set_cons_succ, i64_w, i32_w]
        rfl
      refine pure_ (i := 7) (N := some 29) (v := ?_) (a' := ?_) #[false, false, true, false, true, false, false, true, false, false, false, false, false, false, false, false, false, false] rfl rfl (by kernel_rfl) (fun _ _ _ h => h) (Or.inl ⟨by rfl, ?_⟩) ?_ ?_
      rotate_left
      · intro w'
        go_simp
        with_reducible rfl
      rotate_left
      · simp only [Act.put, List.setIfInBounds_toArray, List.set_cons_zero, List.set_cons_succ, i64_w, i32_w]
        rfl
      refine pure_ (i := 9) (N := some 31) (v := ?_) (a' := ?_) #[false, false, true, false, true, false, false, true, false, true, false, false, false, false, false, false, false, false] rfl rfl (by kernel_rfl) (fun _ _ _ h => h) (Or.inl ⟨by rfl, ?_⟩) ?_ ?_
      rotate_left
      · intro w'
        go_simp
        with_reducible rfl
      rotate_left
      · simp only [Act.put, List.setIfInBounds_toArray, List.set_cons_zero, List.set_cons_succ, i64_w, i32_w]
        rfl
      refine pure_ (i := 12) (N := some 34) (v := ?_) (a' := ?_) #[false, false, true, false, true, false, false, true, false, true, false, false, true, false, false, false, false, false] rfl rfl (by kernel_rfl) (fun _ _ _ h => h) (Or.inl ⟨by rfl, ?_⟩) ?_ ?_
      rotate_left
      · intro w'
        go_simp
        with_reducible rfl
      rotate_left
      · simp only [Act.put, List.setIfInBounds_toArray, List.set_cons_zero, List.set_cons_succ, i64_w, i32_w]
        rfl
      refine take_ (i := 0) (N := some 22) (v := ?_) (a' := ?_) #[true, false, true, false, true, false, false, true, false, true, false, false, true, false, false, false, false, false] rfl rfl (by kernel_rfl) (fun _ _ _ h => h) (Or.inl ⟨by rfl, ?_⟩) hHeld ?_ ?_
      rotate_left
      · rintro w' ⟨s0, s1, s2, s3, s4, s5, s6⟩
        refine row_loads 24 (.tmp 2) ?_ w.heap.size ?_ s0 Tryz.underlying24 ?_ ?_
        · rfl
        · rfl
        · rfl
        · kernel_rfl
      rotate_left
      · simp only [Act.put, List.setIfInBounds_toArray, List.set_cons_zero, List.set_cons_succ, i64_w, i32_w]
        rfl
      refine take_ (i := 3) (N := some 25) (v := ?_) (a' := ?_) #[true, false, true, true, true, false, false, true, false, true, false, false, true, false, false, false, false, false] rfl rfl (by kernel_rfl) (fun _ _ _ h => h) (Or.inl ⟨by rfl, ?_⟩) hHeld ?_ ?_
      rotate_left
      · rintro w' ⟨s0, s1, s2, s3, s4, s5, s6⟩
        go_simp
        with_reducible rfl
      rotate_left
      · simp only [Act.put, List.setIfInBounds_toArray, List.set_cons_zero, List.set_cons_succ, i64_w, i32_w]
        rfl
      refine take_ (i := 5) (N := some 27) (v := ?_) (a' := ?_) #[true, false, true, true, true, true, false, true, false, true, false, false, true, false, false, false, false, false] rfl rfl (by kernel_rfl) (fun _ _ _ h => h) (Or.inl ⟨by rfl, ?_⟩) hHeld ?_ ?_
      rotate_left
      · rintro w' ⟨s0, s1, s2, s3, s4, s5, s6⟩
        go_simp
        with_reducible rfl
      rotate_left
      · simp only [Act.put, List.setIfInBounds_toArray, List.set_cons_zero, List.set_cons_succ, i64_w, i32_w]
        rfl
      refine take_ (i := 8) (N := some 30) (v := ?_) (a' := ?_) #[true, false, true, true, true, true, false, true, true, true, false, false, true, false, false, false, false, false] rfl rfl (by kernel_rfl) (fun _ _ _ h => h) (Or.inl ⟨by rfl, ?_⟩) hHeld ?_ ?_
      rotate_left
      · rintro w' ⟨s0, s1, s2, s3, s4, s5, s6⟩
        go_simp
        with_reducible rfl
      rotate_left
      · simp only [Act.put, List.setIfInBounds_toArray, List.set_cons_zero, List.set_cons_succ, i64_w, i32_w]
        rfl
      refine take_ (i := 10) (N := some 32) (v := ?_) (a' := ?_) #[true, false, true, true, true, true, false, true, true, true, true, false, true, false, false, false, false, false] rfl rfl (by kernel_rfl) (fun _ _ _ h => h) (Or.inl ⟨by rfl, ?_⟩) hHeld ?_ ?_
      rotate_left
      · rintro w' ⟨s0, s1, s2, s3, s4, s5, s6⟩
        go_simp
        with_reducible rfl
      rotate_left
      · simp only [Act.put, List.setIfInBounds_toArray, List.set_cons_zero, List.set_cons_succ, i64_w, i32_w]
        rfl
      refine take_ (i := 13) (N := some 35) (v := ?_) (a' := ?_) #[true, false, true, true, true, true, false, true, true, true, true, false, true, true, false, false, false, false] rfl rfl (by kernel_rfl) (fun _ _ _ h => h) (Or.inl ⟨by rfl, ?_⟩) hHeld ?_ ?_
      rotate_left
      · rintro w' ⟨s0, s1, s2, s3, s4, s5, s6⟩
        go_simp
        with_reducible rfl
      rotate_left
      · simp only [Act.put, List.setIfInBounds_toArray, List.set_cons_zero, List.set_cons_succ, i64_w, i32_w]
        rfl
      refine take_ (i := 14) (N := some 36) (v := ?_) (a' := ?_) #[true, false, true, true, true, true, false, true, true, true, true, false, true, true, true, false, false, false] rfl rfl (by kernel_rfl) (fun _ _ _ h => h) (Or.inl ⟨by rfl, ?_⟩) hHeld ?_ ?_
      rotate_left
      · rintro w' ⟨s0, s1, s2, s3, s4, s5, s6⟩
        refine row_loads 24 (.tmp 3) ?_ (w.heap.size + 1) ?_ s1 Tryz.underlying24 ?_ ?_
        · rfl
        · rfl
        · rfl
        · kernel_rfl
      rotate_left
      · simp only [Act.put, List.setIfInBounds_toArray, List.set_cons_zero, List.set_cons_succ, i64_w, i32_w]
        rfl
      refine one_ (i := 1) (N := some 23) #[true, true, true, true, true, true, false, true, true, true, true, false, true, true, true, false, false, false] rfl rfl (by kernel_rfl) (by decide) (fun K hK => ?_)
      refine goes_ Tryz.func15 (by kernel_rfl) rfl #[.agg #[.slice X0 x.f0.length x0, .slice X1 x.f1.length x1, .string x.f2]] (by rfl) rfl rfl (by simp only [List.map_toArray, List.map_cons, List.map_nil]; rfl) ?_
      with_reducible refine (imageSum_calls X0 x0 x.f0 X1 x1 x.f1 x.f2 _ (Kd.C_below hX0 W0.out) hx0 (Kd.C_below hX1 W0.out) hx1 hLx).mono ?_
      rintro e w3 ⟨rfl, hb⟩
      refine ⟨_, rfl, ?_⟩
      have BA1 := Aside0.mk (BA0.out.below hb BA0.out.lt)
      have BB1 := Aside0.mk (BB0.out.below hb BB0.out.lt)
      have BD1 := Aside0.mk (BD0.out.below hb BD0.out.lt)
      have W1 := Aside0.mk (below_then W0.out W0.out.size hb)
      clear hb
      refine hK.out _ _ ⟨BA1.out, BB1.out, (BA1.out.cell 0), (BA1.out.cell 1), (BB1.out.cell 0), (BB1.out.cell 1), (BB1.out.cell 2)⟩ (fun hHeld => ?_)
      clear hK K
      refine norm_ (a' := ?_) ?_ ?_
      rotate_left
      · show Act.put _ (some 23) _ = _
        simp only [Act.put, List.setIfInBounds_toArray, List.set_cons_zero, List.set_cons_succ, i64_w, i32_w]
        rfl
      refine one_ (i := 6) (N := some 28) #[true, true, true, true, true, true, true, true, true, true, true, false, true, true, true, false, false, false] rfl rfl (by kernel_rfl) (by decide) (fun K hK => ?_)
      refine goes_ Tryz.func16 (by kernel_rfl) rfl #[.slice X0 x.f0.length x0, .slice P0 b.f0.length p0] (by rfl) rfl rfl (by simp only [List.map_toArray, List.map_cons, List.map_nil]; rfl) ?_
      with_reducible refine (delta_writes.calls k X0 x0 x.f0 P0 p0 b.f0 r1 _ (Kd.C_below hX0 W1.out) hx0 (Kd.C_below hP0 W1.out) hp0 hr1).mono ?_
      rintro e w4 ⟨v1, rfl, hR, hb⟩
      refine ⟨_, rfl, ?_⟩
      obtain ⟨U1, u1, rfl⟩ := Kd.R_slice hR
      have BA2 := Aside0.mk (BA1.out.below hb BA1.out.lt)
      have BB2 := Aside0.mk (BB1.out.below hb BB1.out.lt)
      have BD2 := Aside0.mk (BD1.out.below hb BD1.out.lt)
      have W2 := Aside0.mk (below_then W1.out W1.out.size hb)
      have C12 := Aside0.mk hR
      clear hb hR
      refine hK.out _ _ ⟨BA2.out, BB2.out, (BA2.out.cell 0), (BA2.out.cell 1), (BB2.out.cell 0), (BB2.out.cell 1), (BB2.out.cell 2)⟩ (fun hHeld => ?_)
      clear hK K
      refine norm_ (a' := ?_) ?_ ?_
      rotate_left
      · show Act.put _ (some 28) _ = _
        simp only [Act.put, List.setIfInBounds_toArray, List.set_cons_zero, List.set_cons_succ, i64_w, i32_w]
        rfl
      refine one_ (i := 11) (N := some 33) #[true, true, true, true, true, true, true, true, true, true, true, true, true, true, true, false, false, false] rfl rfl (by kernel_rfl) (by decide) (fun K hK => ?_)
      refine goes_ Tryz.func16 (by kernel_rfl) rfl #[.slice X1 x.f1.length x1, .slice P1 b.f1.length p1] (by rfl) rfl rfl (by simp only [List.map_toArray, List.map_cons, List.map_nil]; rfl) ?_
      with_reducible refine (delta_writes.calls k X1 x1 x.f1 P1 p1 b.f1 r2 _ (Kd.C_below hX1 W2.out) hx1 (Kd.C_below hP1 W2.out) hp1 hr2).mono ?_
      rintro e w5 ⟨v2, rfl, hR, hb⟩
      refine ⟨_, rfl, ?_⟩
      obtain ⟨U2, u2, rfl⟩ := Kd.R_slice hR
      have BA3 := Aside0.mk (BA2.out.below hb BA2.out.lt)
      have BB3 := Aside0.mk (BB2.out.below hb BB2.out.lt)
      have BD3 := Aside0.mk (BD2.out.below hb BD2.out.lt)
      have W3 := Aside0.mk (below_then W2.out W2.out.size hb)
      have C13 := Aside0.mk (Kd.R_below C12.out hb)
      have C23 := Aside0.mk hR
      clear hb hR
      refine hK.out _ _ ⟨BA3.out, BB3.out, (BA3.out.cell 0), (BA3.out.cell 1), (BB3.out.cell 0), (BB3.out.cell 1), (BB3.out.cell 2)⟩ (fun hHeld => ?_)
      clear hK K
      refine norm_ (a' := ?_) ?_ ?_
      rotate_left
      · show Act.put _ (some 33) _ = _
        simp only [Act.put, List.setIfInBounds_toArray, List.set_cons_zero, List.set_cons_succ, i64_w, i32_w]
        rfl
      refine one_ (i := 15) (N := some 37) #[true, true, true, true, true, true, true, true, true, true, true, true, true, true, true, true, false, false] rfl rfl (by kernel_rfl) (by decide) (fun K hK => ?_)
      refine goes_ Tryz.func15 (by kernel_rfl) rfl #[.agg #[.slice P0 b.f0.length p0, .slice P1 b.f1.length p1, .string b.f2]] (by rfl) rfl rfl (by simp only [List.map_toArray, List.map_cons, List.map_nil]; rfl) ?_
      with_reducible refine (imageSum_calls P0 p0 b.f0 P1 p1 b.f1 b.f2 _ (Kd.C_below hP0 W3.out) hp0 (Kd.C_below hP1 W3.out) hp1 hLb).mono ?_
      rintro e w6 ⟨rfl, hb⟩
      refine ⟨_, rfl, ?_⟩
      have BA4 := Aside0.mk (BA3.out.below hb BA3.out.lt)
      have BB4 := Aside0.mk (BB3.out.below hb BB3.out.lt)
      have BD4 := Aside0.mk (BD3.out.below hb BD3.out.lt)
      have W4 := Aside0.mk (below_then W3.out W3.out.size hb)
      have C14 := Aside0.mk (Kd.R_below C13.out hb)
      have C24 := Aside0.mk (Kd.R_below C23.out hb)
      clear hb
      refine hK.out _ _ ⟨BA4.out, BB4.out, (BA4.out.cell 0), (BA4.out.cell 1), (BB4.out.cell 0), (BB4.out.cell 1), (BB4.out.cell 2)⟩ (fun hHeld => ?_)
      clear hK K
      refine norm_ (a' := ?_) ?_ ?_
      rotate_left
      · show Act.put _ (some 37) _ = _
        simp only [Act.put, List.setIfInBounds_toArray, List.set_cons_zero, List.set_cons_succ, i64_w, i32_w]
        rfl
      refine pure_ (i := 16) (N := some 38) (v := ?_) (a' := ?_) #[true, true, true, true, true, true, true, true, true, true, true, true, true, true, true, true, true, false] rfl rfl (by kernel_rfl) (fun _ _ _ h => h) (Or.inl ⟨by rfl, ?_⟩) ?_ ?_
      rotate_left
      · intro w'
        refine op_builds 31 #[(0, .tmp 23), (1, .tmp 28), (2, .tmp 33), (3, .tmp 35), (4, .tmp 37)] ?_ (dArr (imgSum x.f0 x.f1 x.f2) (.slice U1 r1.length u1) (.slice U2 r2.length u2) b.f2 (imgSum b.f0 b.f1 b.f2)) ((congrArg (Tryz.prog.built 31) ?_).trans (built_delta (imgSum_len x.f0 x.f1 x.f2) (imgSum_len b.f0 b.f1 b.f2) U1 r1.length u1 U2 r2.length u2 b.f2))
        · rfl
        · simp only [List.map_toArray, List.map_cons, List.map_nil]
          rfl
      rotate_left
      · simp only [Act.put, List.setIfInBounds_toArray, List.set_cons_zero, List.set_cons_succ, i64_w, i32_w]
        rfl
      refine last_ (i := 17) (N := none) #[true, true, true, true, true, true, true, true, true, true, true, true, true, true, true, true, true, true] rfl rfl (by kernel_rfl) (by decide) (fun K hK => ?_)
      refine skip_ (w1 := w6.setRow (w.heap.size + 1 + 1) (dArr (imgSum x.f0 x.f1 x.f2) (.slice U1 r1.length u1) (.slice U2 r2.length u2) b.f2 (imgSum b.f0 b.f1 b.f2))) (by rfl) rfl ?_ ?_
      · exact row_stores 31 (.tmp 4) (.tmp 38) rfl (w.heap.size + 1 + 1) _ rfl rfl BD4.out (by rw [dArr_size (imgSum_len _ _ _) (imgSum_len _ _ _)]; kernel_rfl) (by rw [dArr_size (imgSum_len _ _ _) (imgSum_len _ _ _), dArr_size (outL_len _ _) (outL_len _ _)]) (dArr_one _ _ _ _ _ _ _ _ _)
      refine hK.out _ _ ?_
      clear hK K
      refine done_ (by kernel_rfl) ?_

      clear hHeld
      go_wp2_with fail
      exact bodyPost_ret (results_cell_row (p := 4) (ty := 31) rfl _ _ (w.heap.size + 1 + 1) 31 _ (0, 0) _ rfl (BD4.out.setRow_ _) Tryz.underlying31 rfl (by rw [dArr_size (imgSum_len _ _ _) (imgSum_len _ _ _)]; kernel_rfl)) rfl ⟨U1, u1, U2, u2, rfl, Kd.R_lower (R_setRow C14.out (by have := BD1.out.lt; omega) _) W1.out.size, Kd.R_lower (R_setRow C24.out (by have := BD2.out.lt; omega) _) W2.out.size, below_setRow' W4.out (by omega) _⟩
end Go.Proofs.YtoljjgabgdifbaaGreatDoor.H

