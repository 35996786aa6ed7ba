/- Parts of the proof: B7, B8, Q2, B9. -/
import Derived.Test.YtoljjgabgdifbaaGreatDoorZbB1toB4
import Derived.Test.YtoljjgabgdifbaaGreatDoorZbPR3toR5toPG5
import Derived.Test.YtoljjgabgdifbaaGreatDoorZbPH12
import Derived.Test.YtoljjgabgdifbaaGreatDoorZbPG6toT6toB6
import Derived.Test.YtoljjgabgdifbaaGreatDoorZbPT5toJ4toB5
import Derived.Lib.BufferWrite
import Derived.Test.YtoljjgabgdifbaaGreatDoorZbPJ5toT3
import Derived.Test.YtoljjgabgdifbaaGreatDoorZbPH13toJ2toPJ3toR1

namespace Go.Proofs.YtoljjgabgdifbaaGreatDoor.H
open Go.RowKit Go.Proofs.YtoljjgabgdifbaaGreatDoorW.PrintWords Go.Proofs.YtoljjgabgdifbaaGreatDoorW.PrintLast Go.Proofs.YtoljjgabgdifbaaGreatDoorW.PrintMore
attribute [local go_sem] max2_int min2_int max_two min_two max_three min_three max_four min_four
set_option linter.unusedVariables false
set_option linter.unusedSimpArgs false

def hibd : ByteArray := ⟨#[104, 105, 98, 100]⟩
/-- A delta's texts. -/
def deltaT (L : List Int) (l m : List S46) (s : ByteArray) (M : List Int) : List ByteArray := [hibd, strOfNums L, strOfNums M, s, ⟨(rowB (l.map writeB)).toArray⟩, ⟨(rowB (m.map writeB)).toArray⟩]
theorem conv_from {w : World} {g : Nat} {L M : List Int} {v1 v2 : Value} {s : ByteArray} (hL : Dig L) (hM : Dig M) (h : Blk w g 31 (dArr L v1 v2 s M)) : (convert 52 9 (.slice (some ⟨g, 0, none⟩) 32 32)).run Tryz.prog w = .ok (.string (strOfNums L)) w := by
  refine run_convert_bytes_arg w 52 5 Tryz.underlying52 Tryz.underlying5 g 0 32 32 L hL.len (fun i hi => ?_) 9 Tryz.underlying9
  refine (dArr_range w g L M hL.len hM.len v1 v2 s h).1 i _ ?_
  simp [nums, List.getElem?_map, List.getElem?_eq_getElem (show i < L.length by rw [hL.len]; exact hi), List.getD_eq_getElem?_getD]
theorem conv_to {w : World} {g : Nat} {L M : List Int} {v1 v2 : Value} {s : ByteArray} (hL : Dig L) (hM : Dig M) (h : Blk w g 31 (dArr L v1 v2 s M)) : (convert 52 9 (.slice (some ⟨g, 35, none⟩) 32 32)).run Tryz.prog w = .ok (.string (strOfNums M)) w := by
  refine run_convert_bytes_arg w 52 5 Tryz.underlying52 Tryz.underlying5 g 35 32 32 M hM.len (fun i hi => ?_) 9 Tryz.underlying9
  refine (dArr_range w g L M hL.len hM.len v1 v2 s h).2 i _ ?_
  simp [nums, List.getElem?_map, List.getElem?_eq_getElem (show i < M.length by rw [hM.len]; exact hi), List.getD_eq_getElem?_getD]
theorem conv_take {P : Program} {oi : Oper} {w : World} {v xv : Value} {src dst : TypeId} {x : Operand} {ev : Operand → Value} (ho : oi.op = .convert src dst x) (hx : ev x = xv) (hc : (convert src dst xv).run P w = .ok v w) : (execOp ev oi).run P w = .ok (.value v) w := by
  unfold execOp
  simp only [ho, hx, hc, Sem.run_bind, Sem.run_pure, Result.andThen_ok]

set_option maxHeartbeats 20000000 in
set_option maxRecDepth 100000 in
theorem bytes_calls (L M : List Int) (hL : Dig L) (hM : Dig M) (A : Option Addr) (c : Nat) (l : List S46) (B : Option Addr) (d : Nat) (m : List S46) (s : ByteArray) (w : World)
    (hA : Kd.C k46 w A l.length l) (hc : l.length ≤ c) (hB : Kd.C k46 w B m.length m) (hd : m.length ≤ d) (hl : l.length ≤ 5000000000000) (hm : m.length ≤ 5000000000000) (hT : Tab w)
    (hxl : ∀ x ∈ l, -9223372036854775808 ≤ x.f0 ∧ x.f0 ≤ 9223372036854775807) (hxm : ∀ x ∈ m, -9223372036854775808 ≤ x.f0 ∧ x.f0 ≤ 9223372036854775807)
    (hnl : hasNeg l = false) (hnm : hasNeg m = false) (hsz : (rowB (deltaT L l m s M)).length ≤ 140737488355328) :
    Calls Tryz.prog 8 #[.agg (dArr L (.slice A l.length c) (.slice B m.length d) s M)] w fun e w' => e = .returned (.tuple #[.string ⟨(rowB (deltaT L l m s M)).toArray⟩, .int .i64 0]) ∧ Below w.heap.size w w' := by
  have hll : (rowB (l.map writeB)).length ≤ 140737488355328 := by
    have h := rowB_mem (l := deltaT L l m s M) (s := ⟨(rowB (l.map writeB)).toArray⟩) (by simp [deltaT])
    have e : (ByteArray.mk (rowB (l.map writeB)).toArray).size = (rowB (l.map writeB)).length := by show (rowB _).toArray.size = _; rw [List.size_toArray]
    omega
  have hlm : (rowB (m.map writeB)).length ≤ 140737488355328 := by
    have h := rowB_mem (l := deltaT L l m s M) (s := ⟨(rowB (m.map writeB)).toArray⟩) (by simp [deltaT])
    have e : (ByteArray.mk (rowB (m.map writeB)).toArray).size = (rowB (m.map writeB)).length := by show (rowB _).toArray.size = _; rw [List.size_toArray]
    omega
  have HLL := Aside0.mk hll
  have HLM := Aside0.mk hlm
  have HXL := Aside0.mk hxl
  have HXM := Aside0.mk hxm
  have HT := Aside0.mk hT
  have HA := Aside0.mk hA
  have HB := Aside0.mk hB
  have HDL := Aside0.mk hL
  have HDM := Aside0.mk hM
  obtain ⟨x32, x33, x34⟩ := dArr_mid L M hL.len (.slice A l.length c) (.slice B m.length d) s
  have X32 := Aside0.mk x32
  have X33 := Aside0.mk x33
  have X34 := Aside0.mk x34
  have D0 := Blk.new w 31 (dArr L (.slice A l.length c) (.slice B m.length d) s M)
  have W0 := (Below.refl w.heap.size w).alloc (Nat.le_refl _) (.cells (dArr L (.slice A l.length c) (.slice B m.length d) s M) 31)
  generalize hw0 : w.alloc (.cells (dArr L (.slice A l.length c) (.slice B m.length d) s M) 31) = w0 at D0 W0
  have HW0 := Aside0.mk hw0
  have q32 : w0.cell? ⟨w.heap.size, 32, none⟩ = some (.slice A l.length c) := (D0.cell 32).trans x32
  have D0 := Aside0.mk D0
  have W0 := Aside0.mk W0
  clear hw0 hll hlm hxl hxm hT hA hB hL hM x32 x33 x34
  go_enter Tryz.func8, Tryz.ntmps8
  go_wp2_with (first | (rw [show w.alloc (.cells (dArr L (.slice A l.length c) (.slice B m.length d) s M) 31) = w0 from HW0.out]) | ((with_reducible refine (contains_calls A c l w0 (Kd.C_below HA.out W0.out) hc (by omega)).mono ?_); rintro e w1 ⟨rfl, hb⟩; rw [hnl]; have D1 := Aside0.mk (D0.out.below hb D0.out.lt); have W1 := Aside0.mk (below_then W0.out W0.out.size hb); have q33 := (D1.out.cell 33).trans X33.out; clear hb q32) | ((with_reducible refine (contains_calls B d m w1 (Kd.C_below HB.out W1.out) hd (by omega)).mono ?_); rintro e w2 ⟨rfl, hb⟩; rw [hnm]; have D2 := Aside0.mk (D1.out.below hb D1.out.lt); have W2 := Aside0.mk (below_then W1.out W1.out.size hb); clear hb q33))
  have D3 := Aside0.mk D2.out.drew
  have W3 := Aside0.mk (below_drew W2.out)
  refine start_ (n := 18) (S := fun w' => Blk w' w.heap.size 31 (dArr L (.slice A l.length c) (.slice B m.length d) s M) ∧ w'.cell? ⟨w.heap.size, 32, none⟩ = some (.slice A l.length c) ∧ w'.cell? ⟨w.heap.size, 33, none⟩ = some (.slice B m.length d) ∧ w'.cell? ⟨w.heap.size, 34, none⟩ = some (.string s)) (ds := []) #[false, false, false, false, false, false, false, false, false, false, false, false, false, false, false, false, false, false] (by kernel_rfl) rfl rfl ⟨D3.out, ((D3.out.cell 32).trans X32.out), ((D3.out.cell 33).trans X33.out), ((D3.out.cell 34).trans X34.out)⟩ (fun hHeld => ?_)
  refine pure_ (i := 0) (N := some 12) (v := ?_) (a' := ?_) #[true, false, false, false, false, false, false, false, false, false, false, false, false, false, false, false, false, false] rfl rfl (by kernel_rfl) (fun _ _ _ h => h) (Or.inl ⟨by rfl, ?_⟩) ?_ ?_
  rotate_left
  · intro w'
    go_simp
    with_reducible rfl
  rotate_left
  · simp only [Act.put, List.setIfInBounds_toArray, List.set_cons_zero, List.set_cons_succ, i64_w, i32_w]
    rfl
  refine pure_ (i := 1) (N := some 13) (v := ?_) (a' := ?_) #[true, true, false, false, false, false, false, false, false, false, false, false, false, false, false, false, false, false] rfl rfl (by kernel_rfl) (fun _ _ _ h => h) (Or.inl ⟨by rfl, ?_⟩) ?_ ?_
  rotate_left
  · intro w'
    go_simp
    with_reducible rfl
  rotate_left
  · simp only [Act.put, List.setIfInBounds_toArray, List.set_cons_zero, List.set_cons_succ, i64_w, i32_w]
    rfl
  refine pure_ (i := 3) (N := some 15) (v := ?_) (a' := ?_) #[true, true, false, true, false, false, false, false, false, false, false, false, false, false, false, false, false, false] rfl rfl (by kernel_rfl) (fun _ _ _ h => h) (Or.inl ⟨by rfl, ?_⟩) ?_ ?_
  rotate_left
  · intro w'
    go_simp
    with_reducible rfl
  rotate_left
  · simp only [Act.put, List.setIfInBounds_toArray, List.set_cons_zero, List.set_cons_succ, i64_w, i32_w]
    rfl
  refine pure_ (i := 4) (N := some 16) (v := ?_) (a' := ?_) #[true, true, false, true, true, false, false, false, false, false, false, false, false, false, false, false, false, false] rfl rfl (by kernel_rfl) (fun _ _ _ h => h) (Or.inl ⟨by rfl, ?_⟩) ?_ ?_
  rotate_left
  · intro w'
    go_simp
    with_reducible rfl
  rotate_left
  · simp only [Act.put, List.setIfInBounds_toArray, List.set_cons_zero, List.set_cons_succ, i64_w, i32_w]
    rfl
  refine pure_ (i := 6) (N := some 18) (v := ?_) (a' := ?_) #[true, true, false, true, true, false, true, false, false, false, false, false, false, false, false, false, false, false] rfl rfl (by kernel_rfl) (fun _ _ _ h => h) (Or.inl ⟨by rfl, ?_⟩) ?_ ?_
  rotate_left
  · intro w'
    go_simp
    with_reducible rfl
  rotate_left
  · simp only [Act.put, List.setIfInBounds_toArray, List.set_cons_zero, List.set_cons_succ, i64_w, i32_w]
    rfl
  refine pure_ (i := 8) (N := some 20) (v := ?_) (a' := ?_) #[true, true, false, true, true, false, true, false, true, false, false, false, false, false, false, false, false, false] rfl rfl (by kernel_rfl) (fun _ _ _ h => h) (Or.inl ⟨by rfl, ?_⟩) ?_ ?_
  rotate_left
  · intro w'
    go_simp
    with_reducible rfl
  rotate_left
  · simp only [Act.put, List.setIfInBounds_toArray, List.set_cons_zero, List.set_cons_succ, i64_w, i32_w]
    rfl
  refine pure_ (i := 11) (N := some 23) (v := ?_) (a' := ?_) #[true, true, false, true, true, false, true, false, true, false, false, true, false, false, false, false, false, false] rfl rfl (by kernel_rfl) (fun _ _ _ h => h) (Or.inl ⟨by rfl, ?_⟩) ?_ ?_
  rotate_left
  · intro w'
    go_simp
    with_reducible rfl
  rotate_left
  · simp only [Act.put, List.setIfInBounds_toArray, List.set_cons_zero, List.set_cons_succ, i64_w, i32_w]
    rfl
  refine take_ (i := 2) (N := some 14) (v := ?_) (a' := ?_) #[true, true, true, true, true, false, true, false, true, false, false, true, false, false, false, false, false, false] rfl rfl (by kernel_rfl) (fun _ _ _ h => h) (Or.inl ⟨by rfl, ?_⟩) hHeld ?_ ?_
  rotate_left
  · rintro w' ⟨s0, s1, s2, s3⟩
    refine (conv_take (xv := .slice (some ⟨w.heap.size, 0, none⟩) 32 32) rfl rfl (conv_from HDL.out HDM.out s0)).trans ?_
    with_reducible rfl
  rotate_left
  · simp only [Act.put, List.setIfInBounds_toArray, List.set_cons_zero, List.set_cons_succ, i64_w, i32_w]
    rfl
  refine take_ (i := 5) (N := some 17) (v := ?_) (a' := ?_) #[true, true, true, true, true, true, true, false, true, false, false, true, false, false, false, false, false, false] rfl rfl (by kernel_rfl) (fun _ _ _ h => h) (Or.inl ⟨by rfl, ?_⟩) hHeld ?_ ?_
  rotate_left
  · rintro w' ⟨s0, s1, s2, s3⟩
    refine (conv_take (xv := .slice (some ⟨w.heap.size, 35, none⟩) 32 32) rfl rfl (conv_to HDL.out HDM.out s0)).trans ?_
    with_reducible rfl
  rotate_left
  · simp only [Act.put, List.setIfInBounds_toArray, List.set_cons_zero, List.set_cons_succ, i64_w, i32_w]
    rfl
  refine take_ (i := 7) (N := some 19) (v := ?_) (a' := ?_) #[true, true, true, true, true, true, true, true, true, false, false, true, false, false, false, false, false, false] rfl rfl (by kernel_rfl) (fun _ _ _ h => h) (Or.inl ⟨by rfl, ?_⟩) hHeld ?_ ?_
  rotate_left
  · rintro w' ⟨s0, s1, s2, s3⟩
    go_simp
    with_reducible rfl
  rotate_left
  · simp only [Act.put, List.setIfInBounds_toArray, List.set_cons_zero, List.set_cons_succ, i64_w, i32_w]
    rfl
  refine take_ (i := 9) (N := some 21) (v := ?_) (a' := ?_) #[true, true, true, true, true, true, true, true, true, true, false, true, false, false, false, false, false, false] rfl rfl (by kernel_rfl) (fun _ _ _ h => h) (Or.inl ⟨by rfl, ?_⟩) hHeld ?_ ?_
  rotate_left
  · rintro w' ⟨s0, s1, s2, s3⟩
    go_simp
    with_reducible rfl
  rotate_left
  · simp only [Act.put, List.setIfInBounds_toArray, List.set_cons_zero, List.set_cons_succ, i64_w, i32_w]
    rfl
  refine take_ (i := 12) (N := some 24) (v := ?_) (a' := ?_) #[true, true, true, true, true, true, true, true, true, true, false, true, true, false, false, false, false, false] rfl rfl (by kernel_rfl) (fun _ _ _ h => h) (Or.inl ⟨by rfl, ?_⟩) hHeld ?_ ?_
  rotate_left
  · rintro w' ⟨s0, s1, s2, s3⟩
    go_simp
    with_reducible rfl
  rotate_left
  · simp only [Act.put, List.setIfInBounds_toArray, List.set_cons_zero, List.set_cons_succ, i64_w, i32_w]
    rfl
  refine one_ (i := 10) (N := some 22) #[true, true, true, true, true, true, true, true, true, true, true, true, true, false, false, false, false, false] rfl rfl (by kernel_rfl) (by decide) (fun K hK => ?_)
  refine goes_ Tryz.func20 (by kernel_rfl) rfl #[.slice A l.length c, .func (.func 21) #[] #[]] (by rfl) rfl rfl (by simp only [List.map_toArray, List.map_cons, List.map_nil]; rfl) ?_
  with_reducible refine (wrows_calls A c l _ (Kd.C_below HA.out W3.out) hc hl (Tab.below HT.out W3.out) HXL.out HLL.out).mono ?_
  rintro e w4 ⟨rfl, hb⟩
  refine ⟨_, rfl, ?_⟩
  have D4 := Aside0.mk (D3.out.below hb D3.out.lt)
  have W4 := Aside0.mk (below_then W3.out W3.out.size hb)
  clear hb
  refine hK.out _ _ ⟨D4.out, ((D4.out.cell 32).trans X32.out), ((D4.out.cell 33).trans X33.out), ((D4.out.cell 34).trans X34.out)⟩ (fun hHeld => ?_)
  clear hK K
  refine norm_ (a' := ?_) ?_ ?_
  rotate_left
  · show Act.put _ (some 22) _ = _
    simp only [Act.put, List.setIfInBounds_toArray, List.set_cons_zero, List.set_cons_succ, i64_w, i32_w]
    rfl
  refine one_ (i := 13) (N := some 25) #[true, true, true, true, true, true, true, true, true, true, true, true, true, true, false, false, false, false] rfl rfl (by kernel_rfl) (by decide) (fun K hK => ?_)
  refine goes_ Tryz.func20 (by kernel_rfl) rfl #[.slice B m.length d, .func (.func 21) #[] #[]] (by rfl) rfl rfl (by simp only [List.map_toArray, List.map_cons, List.map_nil]; rfl) ?_
  with_reducible refine (wrows_calls B d m _ (Kd.C_below HB.out W4.out) hd hm (Tab.below HT.out W4.out) HXM.out HLM.out).mono ?_
  rintro e w5 ⟨rfl, hb⟩
  refine ⟨_, rfl, ?_⟩
  have D5 := Aside0.mk (D4.out.below hb D4.out.lt)
  have W5 := Aside0.mk (below_then W4.out W4.out.size hb)
  clear hb
  refine hK.out _ _ ⟨D5.out, ((D5.out.cell 32).trans X32.out), ((D5.out.cell 33).trans X33.out), ((D5.out.cell 34).trans X34.out)⟩ (fun hHeld => ?_)
  clear hK K
  refine norm_ (a' := ?_) ?_ ?_
  rotate_left
  · show Act.put _ (some 25) _ = _
    simp only [Act.put, List.setIfInBounds_toArray, List.set_cons_zero, List.set_cons_succ, i64_w, i32_w]
    rfl
  refine one_ (i := 14) (N := some 26) #[true, true, true, true, true, true, true, true, true, true, true, true, true, true, true, false, false, false] rfl rfl (by kernel_rfl) (by decide) (fun K hK => ?_)
  refine value_ (w1 := ?_) (v := ?_) (by rfl) rfl ?_ ?_
  rotate_left 2
  · go_simp
    constructor
    · rfl
    · rfl
  have D6 := Aside0.mk (D5.out.alloc (.cells (List.map Value.string (deltaT L l m s M)).toArray 9))
  have W6 := Aside0.mk (W5.out.alloc (by have := W5.out.size; omega) (.cells (List.map Value.string (deltaT L l m s M)).toArray 9))
  refine hK.out _ _ ⟨D6.out, ((D6.out.cell 32).trans X32.out), ((D6.out.cell 33).trans X33.out), ((D6.out.cell 34).trans X34.out)⟩ (fun hHeld => ?_)
  clear hK K
  refine norm_ (a' := ?_) ?_ ?_
  rotate_left
  · show Act.put _ (some 26) _ = _
    simp only [Act.put, List.setIfInBounds_toArray, List.set_cons_zero, List.set_cons_succ, i64_w, i32_w]
    rfl
  refine one_ (i := 15) (N := some 27) #[true, true, true, true, true, true, true, true, true, true, true, true, true, true, true, true, false, false] rfl rfl (by kernel_rfl) (by decide) (fun K hK => ?_)
  refine goes_ Tryz.func19 (by kernel_rfl) rfl #[.slice (some ⟨w5.heap.size, 0, none⟩) (deltaT L l m s M).length 6] (by rfl) rfl rfl (by simp only [List.map_toArray, List.map_cons, List.map_nil]; rfl) ?_
  refine (rowOf_calls (some ⟨w5.heap.size, 0, none⟩) 6 (deltaT L l m s M) _ (strings_new w5 (deltaT L l m s M) (by simp [deltaT])) (by simp [deltaT]) hsz).mono ?_
  rintro e w7 ⟨rfl, hb⟩
  refine ⟨_, rfl, ?_⟩
  have D7 := Aside0.mk (D6.out.below hb D6.out.lt)
  have W7 := Aside0.mk (below_then W6.out W6.out.size hb)
  clear hb
  refine hK.out _ _ ⟨D7.out, ((D7.out.cell 32).trans X32.out), ((D7.out.cell 33).trans X33.out), ((D7.out.cell 34).trans X34.out)⟩ (fun hHeld => ?_)
  clear hK K
  refine norm_ (a' := ?_) ?_ ?_
  rotate_left
  · show Act.put _ (some 27) _ = _
    simp only [Act.put, List.setIfInBounds_toArray, List.set_cons_zero, List.set_cons_succ, i64_w, i32_w]
    rfl
  refine pure_ (i := 16) (N := some 2) (v := ?_) (a' := ?_) #[true, true, true, true, true, true, true, true, true, true, true, true, true, true, true, true, true, false] rfl rfl (by kernel_rfl) (fun _ _ _ h => h) (Or.inl ⟨by rfl, ?_⟩) ?_ ?_
  rotate_left
  · intro w'
    go_simp
    with_reducible rfl
  rotate_left
  · simp only [Act.put, List.setIfInBounds_toArray, List.set_cons_zero, List.set_cons_succ, i64_w, i32_w]
    rfl
  refine pure_ (i := 17) (N := some 3) (v := ?_) (a' := ?_) #[true, true, true, true, true, true, true, true, true, true, true, true, true, true, true, true, true, true] rfl rfl (by kernel_rfl) (fun _ _ _ h => h) (Or.inl ⟨by rfl, ?_⟩) ?_ ?_
  rotate_left
  · intro w'
    go_simp
    with_reducible rfl
  rotate_left
  · simp only [Act.put, List.setIfInBounds_toArray, List.set_cons_zero, List.set_cons_succ, i64_w, i32_w]
    rfl
  refine done_ (by kernel_rfl) ?_

  clear hHeld
  go_wp2_with fail
  go_ret2
  exact ⟨rfl, W7.out⟩
end Go.Proofs.YtoljjgabgdifbaaGreatDoor.H


namespace Go.Proofs.YtoljjgabgdifbaaGreatDoor.H
open Go.RowKit Go.Proofs.YtoljjgabgdifbaaGreatDoorW.PrintWords Go.Proofs.YtoljjgabgdifbaaGreatDoorW.PrintLast Go.Proofs.YtoljjgabgdifbaaGreatDoorW.PrintMore
attribute [local go_sem] max2_int min2_int max_two min_two max_three min_three max_four min_four
set_option linter.unusedVariables false
set_option linter.unusedSimpArgs false

theorem bytesOf_dig (t : ByteArray) (h : t.size = 32) : Dig (bytesOf t) := by
  refine ⟨by rw [bytesOf_length]; exact h, fun v hv => ?_⟩
  unfold bytesOf at hv
  obtain ⟨b, _, rfl⟩ := List.mem_map.1 hv
  have := b.toNat_lt
  omega
theorem nums_bytesOf (t : ByteArray) : nums .u8 (bytesOf t) = Lib.byteCells t.data.toList := by
  simp [nums, bytesOf, Lib.byteCells]
theorem str_at {w : World} {ad : Addr} {xs : List ByteArray} (h : Kd.C Kd.string w (some ad) xs.length xs) (i : Nat) (hi : i < xs.length) : w.cell? (ad.add i) = some (.string (rdOf ByteArray.empty xs (i : Int))) := by
  obtain ⟨ad', e, hx⟩ := Kd.at_string h (i : Int) (by omega) (by omega)
  cases e
  rw [Int.toNat_natCast] at hx
  exact hx
theorem dArr_from {L L' M : List Int} (hL : L.length = 32) (hL' : L'.length = 32) (v1 v2 : Value) (s : ByteArray) : ((dArr L v1 v2 s M).toList.take 0 ++ nums .u8 L' ++ (dArr L v1 v2 s M).toList.drop (0 + 32)).toArray = dArr L' v1 v2 s M := by
  have n0 : (nums .u8 L).length = 32 := by rw [nums_length]; exact hL
  unfold dArr
  rw [List.take_zero, List.nil_append, Nat.zero_add, List.append_assoc, List.drop_append_of_le_length (by omega), List.drop_eq_nil_of_le (by omega)]
  simp
theorem dArr_to {L M M' : List Int} (hL : L.length = 32) (hM : M.length = 32) (v1 v2 : Value) (s : ByteArray) : ((dArr L v1 v2 s M).toList.take 35 ++ nums .u8 M' ++ (dArr L v1 v2 s M).toList.drop (35 + 32)).toArray = dArr L v1 v2 s M' := by
  have n0 : (nums .u8 L).length = 32 := by rw [nums_length]; exact hL
  have n1 : (nums .u8 M).length = 32 := by rw [nums_length]; exact hM
  have e : (dArr L v1 v2 s M).toList = (nums .u8 L ++ [v1, v2, .string s]) ++ nums .u8 M := rfl
  rw [e, List.take_left' (by simp [n0]), List.drop_eq_nil_of_le (by simp [n0, n1]), List.append_nil]
  rfl
theorem dArr_put {L M : List Int} (hL : L.length = 32) (v1 v2 u : Value) (s t : ByteArray) : (dArr L v1 v2 s M).setIfInBounds 32 u = dArr L u v2 s M ∧ (dArr L v1 v2 s M).setIfInBounds 33 u = dArr L v1 u s M ∧ (dArr L v1 v2 s M).setIfInBounds 34 (.string t) = dArr L v1 v2 t M := by
  have n0 : (nums .u8 L).length = 32 := by rw [nums_length]; exact hL
  refine ⟨?_, ?_, ?_⟩ <;>
  · apply Array.ext'
    unfold dArr
    simp only [List.setIfInBounds_toArray]
    rw [List.append_assoc, List.set_append_right _ _ (by omega), n0]
    simp
theorem each_ok {k : Nat} {s : ByteArray} {l : List ByteArray} {g : ByteArray → S46 × Bool} {w : World} (hT : num_Texts.f k s = some (l, 0))
    (hg : ∀ t ∈ l, ∃ kk ts e2, num_Texts.f kk t = some (ts, e2) ∧ (∀ u ∈ ts, u.size ≤ 281474976710656) ∧ g t = rwOf ts e2) (hlen : l.length ≤ 5000000000000) (hok : okAll g l = true) (hv : Vars w) :
    Calls Tryz.prog 23 #[.string s, .func (.func 24) #[] #[]] w fun e w' => ∃ A c, e = .returned (.tuple #[.slice A (l.map fun t => (g t).1).length c, .bool true]) ∧ Kd.R k46 46 w' w.heap.size (fun _ => True) (.slice A (l.map fun t => (g t).1).length c) (l.map fun t => (g t).1) ∧ Below w.heap.size w w' := by
  refine (each_calls k s l 0 g w hT hg hlen hv).mono ?_
  rintro e w' ⟨v, rfl, hR, hb⟩
  rw [hok, if_pos rfl] at hR
  obtain ⟨A, c, rfl, _, _⟩ := R_slice hR
  exact ⟨A, c, by rw [hok]; rfl, hR, hb⟩

theorem R_setCell {α : Type} {d : Kd α} {e : Nat} {w : World} {base : Nat} {ok : Nat → Prop} {v : Value} {xs : List α} (h : Kd.R d e w base ok v xs) {p : Addr} (hg : p.block < base) (u : Value) : Kd.R d e (w.setCell p u) base ok v xs :=
  Kd.R_mono (Kd.R_step (Kd.R_bound h) (fun k hk _ => Below.heap_setCell _ _ _ k (by have := hk.2.1; omega))) (fun k hk => hk.1)

set_option maxHeartbeats 20000000 in
set_option maxRecDepth 100000 in
theorem read_ok (k : Nat) (b t1 t2 t3 t4 t5 : ByteArray) (hT : num_Texts.f k b = some ([hibd, t1, t2, t3, t4, t5], 0)) (h1 : t1.size = 32) (h2 : t2.size = 32) (g : ByteArray → S46 × Bool)
    (k4 : Nat) (l4 : List ByteArray) (hT4 : num_Texts.f k4 t4 = some (l4, 0)) (hg4 : ∀ t ∈ l4, ∃ kk ts e2, num_Texts.f kk t = some (ts, e2) ∧ (∀ u ∈ ts, u.size ≤ 281474976710656) ∧ g t = rwOf ts e2) (hl4 : l4.length ≤ 5000000000000) (ho4 : okAll g l4 = true)
    (k5 : Nat) (l5 : List ByteArray) (hT5 : num_Texts.f k5 t5 = some (l5, 0)) (hg5 : ∀ t ∈ l5, ∃ kk ts e2, num_Texts.f kk t = some (ts, e2) ∧ (∀ u ∈ ts, u.size ≤ 281474976710656) ∧ g t = rwOf ts e2) (hl5 : l5.length ≤ 5000000000000) (ho5 : okAll g l5 = true)
    (w : World) (hv : Vars w) :
    Calls Tryz.prog 9 #[.string b] w fun e w' => ∃ v, e = .returned (.tuple #[v, .int .i64 0]) ∧ DeltaAt w' w.heap.size v (bytesOf t1) (l4.map fun t => (g t).1) (l5.map fun t => (g t).1) t3 (bytesOf t2) ∧ Below w.heap.size w w' := by
  have EC4 := fun w hv => each_ok (w := w) hT4 hg4 hl4 ho4 hv
  have EC5 := fun w hv => each_ok (w := w) hT5 hg5 hl5 ho5 hv
  generalize (l4.map fun t => (g t).1) = r4 at EC4 ⊢
  generalize (l5.map fun t => (g t).1) = r5 at EC5 ⊢
  have EC4 := Aside0.mk EC4
  have EC5 := Aside0.mk EC5
  have HV := Aside0.mk hv
  have B0 := Blk.new w 31 (dArr (outL [] 0) (.slice none 0 0) (.slice none 0 0) ⟨#[]⟩ (outL [] 0))
  have W0 := (Below.refl w.heap.size w).alloc (Nat.le_refl _) (.cells (dArr (outL [] 0) (.slice none 0 0) (.slice none 0 0) ⟨#[]⟩ (outL [] 0)) 31)
  generalize hw0 : w.alloc (.cells (dArr (outL [] 0) (.slice none 0 0) (.slice none 0 0) ⟨#[]⟩ (outL [] 0)) 31) = w0 at B0 W0
  have HW0 := Aside0.mk hw0
  have B0 := Aside0.mk B0
  have W0 := Aside0.mk W0
  have TC := Aside0.mk (num_Texts.calls k b [hibd, t1, t2, t3, t4, t5] 0 w0 hT)
  clear hw0 hT hT4 hg4 hl4 ho4 hT5 hg5 hl5 ho5 hv
  go_enter Tryz.func9, Tryz.ntmps9
  go_wp2_with (first | (rw [show w.alloc (.cells Tryz.zeroCells31 31) = w0 from (by rw [z31]; exact HW0.out)]) | (go_at_call 22; (with_reducible refine TC.out.mono ?_); rintro e w1 ⟨v, rfl, hR, hb⟩; obtain ⟨A, c, rfl, hlc, hC⟩ := R_slice hR; have W1 := Aside0.mk (below_then W0.out W0.out.size hb); have B1 := Aside0.mk (B0.out.below hb B0.out.lt); have V1 := Aside0.mk (Vars.below HV.out W1.out); have C1 := Aside0.mk hC; obtain ⟨ad, eA, hx0⟩ := Kd.at_string hC (0 : Int) (by omega) (by simp); cases eA; have D2 := Aside0.mk (Blk.new w1 31 (dArr (outL [] 0) (.slice none 0 0) (.slice none 0 0) ⟨#[]⟩ (outL [] 0))); have X2 := Aside0.mk (below_alloc (Below.refl w1.heap.size w1) (.cells (dArr (outL [] 0) (.slice none 0 0) (.slice none 0 0) ⟨#[]⟩ (outL [] 0)) 31)); clear hR hb hC hlc hx0; generalize hw2 : w1.alloc (.cells (dArr (outL [] 0) (.slice none 0 0) (.slice none 0 0) ⟨#[]⟩ (outL [] 0)) 31) = w2 at D2 X2; have HW2 := Aside0.mk hw2; clear hw2; have hx0 := str_at (Kd.C_below C1.out X2.out) 0 (by simp); have hx1 := str_at (Kd.C_below C1.out X2.out) 1 (by simp); have hx2 := str_at (Kd.C_below C1.out X2.out) 2 (by simp); replace hx0 : w2.cell? ad = some (.string ⟨#[104, 105, 98, 100]⟩) := hx0; replace hx1 : w2.cell? { block := ad.block, off := ad.off + 1 } = some (.string t1) := hx1; replace hx2 : w2.cell? { block := ad.block, off := ad.off + 2 } = some (.string t2) := hx2) | (rw [show w1.alloc (.cells Tryz.zeroCells31 31) = w2 from (by rw [z31]; exact HW2.out)]))
  have g1 : w1.heap.size < w2.heap.size := D2.out.lt
  have cp1 := Lib.run_copy_row_string (P := Tryz.prog) w2.drew 52 9 3 5 w1.heap.size 0 32 32 t1 (dArr (outL [] 0) (.slice none 0 0) (.slice none 0 0) ⟨#[]⟩ (outL [] 0)) 31 Tryz.underlying52 (by kernel_rfl) D2.out.drew (by omega) (by rw [dArr_size (outL_len _ _) (outL_len _ _)]; omega)
  rw [← nums_bytesOf, h1, dArr_from (outL_len _ _) (bytesOf_dig t1 h1).len] at cp1
  have D3 := Aside0.mk (Blk.setRow_ D2.out.drew (dArr (bytesOf t1) (.slice none 0 0) (.slice none 0 0) ⟨#[]⟩ (outL [] 0)))
  have X3 := Aside0.mk (below_setRow' (below_drew X2.out) (Nat.le_refl _) (dArr (bytesOf t1) (.slice none 0 0) (.slice none 0 0) ⟨#[]⟩ (outL [] 0)))
  generalize w2.drew.setRow w1.heap.size _ = w3 at cp1 D3 X3
  go_still_tail 5, (by kernel_rfl)
  go_wp2
  have hx2 := str_at (Kd.C_below C1.out X3.out) 2 (by simp)
  replace hx2 : w3.cell? { block := ad.block, off := ad.off + 2 } = some (.string t2) := hx2
  have cp2 := Lib.run_copy_row_string (P := Tryz.prog) w3.drew 52 9 3 5 w1.heap.size 35 32 32 t2 (dArr (bytesOf t1) (.slice none 0 0) (.slice none 0 0) ⟨#[]⟩ (outL [] 0)) 31 Tryz.underlying52 (by kernel_rfl) D3.out.drew (by omega) (by rw [dArr_size (bytesOf_dig t1 h1).len (outL_len _ _)]; omega)
  rw [← nums_bytesOf, h2, dArr_to (bytesOf_dig t1 h1).len (outL_len _ _)] at cp2
  have D4 := Blk.setRow_ D3.out.drew (dArr (bytesOf t1) (.slice none 0 0) (.slice none 0 0) ⟨#[]⟩ (bytesOf t2))
  have X4 := below_setRow' (below_drew X3.out) (Nat.le_refl _) (dArr (bytesOf t1) (.slice none 0 0) (.slice none 0 0) ⟨#[]⟩ (bytesOf t2))
  generalize w3.drew.setRow w1.heap.size _ = w4 at cp2 D4 X4
  have D4 := Aside0.mk D4
  have X4 := Aside0.mk X4
  have hx3 := str_at (Kd.C_below C1.out X4.out) 3 (by simp)
  replace hx3 : w4.cell? { block := ad.block, off := ad.off + 3 } = some (.string t3) := hx3
  obtain ⟨m32, m33, m34⟩ := dArr_mid (bytesOf t1) (bytesOf t2) (bytesOf_dig t1 h1).len (.slice none 0 0) (.slice none 0 0) ⟨#[]⟩
  have c34 : w4.cell? ⟨w1.heap.size, 34, none⟩ = some (.string ⟨#[]⟩) := (D4.out.cell 34).trans m34
  have f34 := D4.out.frozen 34
  have D5 := D4.out.set_ 34 (.string t3)
  rw [(dArr_put (bytesOf_dig t1 h1).len (.slice none 0 0) (.slice none 0 0) .nilIface ⟨#[]⟩ t3).2.2] at D5
  have X5 := X4.out.setCell (p := ⟨w1.heap.size, 34, none⟩) (Nat.le_refl _) (.string t3)
  generalize hw5 : w4.setCell ⟨w1.heap.size, 34, none⟩ (.string t3) = w5 at D5 X5
  have HW5 := Aside0.mk hw5
  have D5 := Aside0.mk D5
  have X5 := Aside0.mk X5
  obtain ⟨n32, n33, n34⟩ := dArr_mid (bytesOf t1) (bytesOf t2) (bytesOf_dig t1 h1).len (.slice none 0 0) (.slice none 0 0) t3
  have N32 := Aside0.mk n32
  have N33 := Aside0.mk (dArr_mid (bytesOf t1) (bytesOf t2) (bytesOf_dig t1 h1).len)
  have PUT := Aside0.mk (fun v1 v2 u s t => dArr_put (M := bytesOf t2) (bytesOf_dig t1 h1).len v1 v2 u s t)
  have hx4 := str_at (Kd.C_below C1.out X5.out) 4 (by simp)
  replace hx4 : w5.cell? { block := ad.block, off := ad.off + 4 } = some (.string t4) := hx4
  have V5 := Aside0.mk (Vars.below V1.out X5.out)
  have G5 := Aside0.mk (show w1.heap.size < w5.heap.size from D5.out.lt)
  clear cp1 m32 m33 m34 n32 n33 n34 hw5
  go_still_tail 5, (by kernel_rfl)
  go_wp2_with (first | (rw [show w4.setCell { block := w1.heap.size, off := 34 } (.string t3) = w5 from HW5.out]) | ((with_reducible refine (EC4.out w5 V5.out).mono ?_); rintro e w6 ⟨A4, c4, rfl, hR, hb⟩; have R6 := Aside0.mk hR; have X6 := below_then X5.out X5.out.size hb; have D6 := D5.out.below hb D5.out.lt; have c32 : w6.cell? ⟨w1.heap.size, 32, none⟩ = some (.slice none 0 0) := (D6.cell 32).trans N32.out; have f32 := D6.frozen 32; have D7 := D6.set_ 32 (.slice A4 r4.length c4); rw [(PUT.out (.slice none 0 0) (.slice none 0 0) (.slice A4 r4.length c4) t3 t3).1] at D7; have X7 := X6.setCell (p := ⟨w1.heap.size, 32, none⟩) (Nat.le_refl _) (.slice A4 r4.length c4); have R7 := R_setCell hR (p := ⟨w1.heap.size, 32, none⟩) (by exact G5.out) (.slice A4 r4.length c4); generalize hw7 : w6.setCell ⟨w1.heap.size, 32, none⟩ (.slice A4 r4.length c4) = w7 at D7 X7 R7; have HW7 := Aside0.mk hw7; have D7 := Aside0.mk D7; have X7 := Aside0.mk X7; have R7 := Aside0.mk R7; have V7 := Aside0.mk (Vars.below V1.out X7.out); have hx5 := str_at (Kd.C_below C1.out X7.out) 5 (by simp); replace hx5 : w7.cell? { block := ad.block, off := ad.off + 5 } = some (.string t5) := hx5; clear hw7 D6 X6 hR hb hx4) | (rw [show w6.setCell { block := w1.heap.size, off := 32 } (.slice A4 r4.length c4) = w7 from HW7.out]))
  have B1w := Aside0.mk B1.out.lt
  refine (EC5.out w7 V7.out).mono ?_
  rintro e w8 ⟨A5, c5, rfl, hR, hb⟩
  have X8 := below_then X7.out X7.out.size hb
  have D8 := D7.out.below hb D7.out.lt
  have R8 := Kd.R_below R7.out hb
  have c33 : w8.cell? ⟨w1.heap.size, 33, none⟩ = some (.slice none 0 0) := (D8.cell 33).trans (N33.out _ _ _).2.1
  have f33 := D8.frozen 33
  have D9 := D8.set_ 33 (.slice A5 r5.length c5)
  rw [(PUT.out (.slice A4 r4.length c4) (.slice none 0 0) (.slice A5 r5.length c5) t3 t3).2.1] at D9
  have X9 := X8.setCell (p := ⟨w1.heap.size, 33, none⟩) (Nat.le_refl _) (.slice A5 r5.length c5)
  have R9 := R_setCell R8 (p := ⟨w1.heap.size, 33, none⟩) G5.out (.slice A5 r5.length c5)
  have G7 : w1.heap.size < w7.heap.size := D7.out.lt
  have Q9 := R_setCell hR (p := ⟨w1.heap.size, 33, none⟩) G7 (.slice A5 r5.length c5)
  generalize hw9 : w8.setCell ⟨w1.heap.size, 33, none⟩ (.slice A5 r5.length c5) = w9 at D9 X9 R9 Q9
  have HW9 := Aside0.mk hw9
  have B9 := B1.out.below X9 B1.out.lt
  have DS := Aside0.mk (dArr_size (bytesOf_dig t1 h1).len (bytesOf_dig t2 h2).len (.slice A4 r4.length c4) (.slice A5 r5.length c5) t3)
  have D9 := Aside0.mk D9
  have X9 := Aside0.mk X9
  have R9 := Aside0.mk R9
  have Q9 := Aside0.mk Q9
  have B9 := Aside0.mk B9
  clear hb hR X8 D8 R8 hw9 hx5
  go_wp2_with (first | (rw [show w8.setCell { block := w1.heap.size, off := 33 } (.slice A5 r5.length c5) = w9 from HW9.out]) | (refine wpList_load_row rfl 31 (.tmp 6) rfl w1.heap.size rfl 31 _ (0, 0) _ D9.out Tryz.underlying31 rfl (by rw [DS.out]; kernel_rfl) ?_) | (refine wpList_store_row rfl 31 (.tmp 2) (.tmp 81) rfl w.heap.size _ rfl rfl 31 _ B9.out (by rw [DS.out]; kernel_rfl) (by rw [DS.out, dArr_size (outL_len _ _) (outL_len _ _)]) (dArr_one _ _ _ _ _ _ _ _ _) ?_))
  go_wp2_with fail
  have G0 : w.heap.size < w5.heap.size := by have := B1w.out; have := G5.out; omega
  have L1 := W1.out.size
  exact bodyPost_ret (results_row_tmp (p := 2) (u := 3) (ty := 31) rfl _ _ w.heap.size 31 _ _ rfl (B9.out.setRow_ _) Tryz.underlying31 rfl (by rw [DS.out]; kernel_rfl)) rfl ⟨_, rfl, ⟨A4, c4, A5, c5, rfl, Kd.R_lower (R_setRow R9.out G0 _) (by omega), Kd.R_lower (R_setRow Q9.out (by have := B1w.out; have := G7; omega) _) (by omega)⟩, below_setRow' (below_then W1.out W1.out.size X9.out) (Nat.le_refl _) _⟩
end Go.Proofs.YtoljjgabgdifbaaGreatDoor.H


namespace Go.Proofs.YtoljjgabgdifbaaGreatDoor.H
open Go.RowKit Go.Proofs.YtoljjgabgdifbaaGreatDoorW.PrintWords Go.Proofs.YtoljjgabgdifbaaGreatDoorW.PrintLast Go.Proofs.YtoljjgabgdifbaaGreatDoorW.PrintMore
attribute [local go_sem] max2_int min2_int max_two min_two max_three min_three max_four min_four
set_option linter.unusedVariables false
set_option linter.unusedSimpArgs false

theorem tot_bound : ∀ (l : List ByteArray) (B : Nat), (∀ s ∈ l, s.size ≤ B) → tot l ≤ l.length * (B + 1)
  | [], B, h => by simp [tot]
  | s :: l, B, h => by
    have h1 := h s (by simp)
    have h2 := tot_bound l B (fun t ht => h t (by simp [ht]))
    simp only [tot, List.length_cons, Nat.add_mul, Nat.one_mul]
    omega
theorem row_len : ∀ l : List ByteArray, l.length ≤ (rowB l).length
  | [] => Nat.le_refl _
  | s :: l => by
    have := row_len l
    have h : 1 ≤ (lenB s.size).length := by
      have := lenB_ne s.size
      cases h : lenB s.size with
      | nil => exact absurd h this
      | cons => simp
    simp only [rowB, List.length_append, List.length_cons]
    omega
theorem strOf_size (L : List Int) : (strOfNums L).size = L.length := by
  unfold strOfNums
  rw [size_mk, List.length_map]
theorem bytesOf_str {L : List Int} (h : Dig L) : bytesOf (strOfNums L) = L := by
  show ((L.map fun n => UInt8.ofNat n.toNat).toArray.toList).map (fun b : UInt8 => (b.toNat : Int)) = L
  rw [List.toList_toArray, List.map_map]
  conv => rhs; rw [← List.map_id L]
  apply List.map_congr_left
  intro v hv
  have := h.rg v hv
  simp only [Function.comp, UInt8.toNat_ofNat', id]
  show ((v.toNat % 2 ^ 8 : Nat) : Int) = v
  omega
theorem writeB_size {x : S46} (h0 : 0 ≤ x.f0) (h1 : x.f0 ≤ 9223372036854775807) : (writeB x).size ≤ 42 + 2 * x.f1.size := by
  have h := rowB_le [⟨(Lib.itoa x.f0).toArray⟩, x.f1]
  have h2 := itoa_len x.f0 h0 h1
  have h3 := size_mk (Lib.itoa x.f0)
  unfold writeB
  rw [size_mk]
  simp only [tot] at h
  omega
theorem deltaT_len {L M : List Int} (hL : Dig L) (hM : Dig M) {l m : List S46} {s : ByteArray} (hl : l.length ≤ 1000) (hm : m.length ≤ 1000) (hs : s.size ≤ 4000)
    (hxl : ∀ x ∈ l, 0 ≤ x.f0 ∧ x.f0 ≤ 9223372036854775807 ∧ x.f1.size ≤ 4000) (hxm : ∀ x ∈ m, 0 ≤ x.f0 ∧ x.f0 ≤ 9223372036854775807 ∧ x.f1.size ≤ 4000) : (rowB (deltaT L l m s M)).length < 268435456 := by
  have key : ∀ l : List S46, l.length ≤ 1000 → (∀ x ∈ l, 0 ≤ x.f0 ∧ x.f0 ≤ 9223372036854775807 ∧ x.f1.size ≤ 4000) → (rowB (l.map writeB)).length ≤ 16086000 := by
    intro l hl hx
    have h1 := tot_bound (l.map writeB) 8042 (by
      intro t ht
      obtain ⟨x, hxm, rfl⟩ := List.mem_map.1 ht
      obtain ⟨h0, h1, h2⟩ := hx x hxm
      have := writeB_size h0 h1
      omega)
    have h2 := rowB_le (l.map writeB)
    rw [List.length_map] at h1
    have h3 : l.length * (8042 + 1) ≤ 1000 * (8042 + 1) := Nat.mul_le_mul_right _ hl
    omega
  have h := rowB_le (deltaT L l m s M)
  have h1 := key l hl hxl
  have h2 := key m hm hxm
  have h3 := size_mk (rowB (l.map writeB))
  have h4 := size_mk (rowB (m.map writeB))
  have h5 := strOf_size L
  have h6 := strOf_size M
  rw [hL.len] at h5
  rw [hM.len] at h6
  have h7 : hibd.size = 4 := rfl
  simp only [deltaT, tot] at h ⊢
  omega

/-- How the texts of a write's row are read. -/
def rdW (t : ByteArray) : S46 × Bool := match num_Texts.f 268435500 t with
  | some p => rwOf p.1 p.2
  | none => (z46, false)
theorem rdW_some {t : ByteArray} {ts : List ByteArray} {e : Int} (h : num_Texts.f 268435500 t = some (ts, e)) : rdW t = rwOf ts e := by
  unfold rdW
  rw [h]
theorem write_back {x : S46} (h0 : 0 ≤ x.f0) (h1 : x.f0 ≤ 9223372036854775807) (h2 : (writeB x).size < 268435456) : num_Texts.f 268435500 (writeB x) = some ([⟨(Lib.itoa x.f0).toArray⟩, x.f1], 0) ∧ (∀ u ∈ ([⟨(Lib.itoa x.f0).toArray⟩, x.f1] : List ByteArray), u.size ≤ 281474976710656) ∧ rdW (writeB x) = (x, true) := by
  unfold writeB at h2
  rw [size_mk] at h2
  have hm : ∀ u ∈ ([⟨(Lib.itoa x.f0).toArray⟩, x.f1] : List ByteArray), u.size < 268435456 := fun u hu => Nat.lt_of_le_of_lt (rowB_mem hu) h2
  have h := texts_row [⟨(Lib.itoa x.f0).toArray⟩, x.f1] 268435500 (by simp) hm (by omega) (by simp)
  refine ⟨h, fun u hu => by have := hm u hu; omega, ?_⟩
  rw [show rdW (writeB x) = _ from rdW_some h, rwOf, if_pos ⟨rfl, rfl⟩]
  have e0 : rdOf ByteArray.empty [⟨(Lib.itoa x.f0).toArray⟩, x.f1] 0 = ⟨(Lib.itoa x.f0).toArray⟩ := rfl
  have e1 : rdOf ByteArray.empty [⟨(Lib.itoa x.f0).toArray⟩, x.f1] 1 = x.f1 := rfl
  rw [e0, e1, intP_itoa x.f0 h0 h1]
  simp [h0]
theorem writes_back {l : List S46} (hx : ∀ x ∈ l, 0 ≤ x.f0 ∧ x.f0 ≤ 9223372036854775807) (hr : (rowB (l.map writeB)).length < 268435456) :
    num_Texts.f 268435500 ⟨(rowB (l.map writeB)).toArray⟩ = some (l.map writeB, 0) ∧ (∀ t ∈ l.map writeB, ∃ kk ts e2, num_Texts.f kk t = some (ts, e2) ∧ (∀ u ∈ ts, u.size ≤ 281474976710656) ∧ rdW t = rwOf ts e2) ∧
    (l.map writeB).length ≤ 5000000000000 ∧ okAll rdW (l.map writeB) = true ∧ (l.map writeB).map (fun t => (rdW t).1) = l := by
  have hlen := row_len (l.map writeB)
  have hm : ∀ u ∈ l.map writeB, u.size < 268435456 := fun u hu => Nat.lt_of_le_of_lt (rowB_mem hu) hr
  have hb : ∀ x ∈ l, num_Texts.f 268435500 (writeB x) = some ([⟨(Lib.itoa x.f0).toArray⟩, x.f1], 0) ∧ (∀ u ∈ ([⟨(Lib.itoa x.f0).toArray⟩, x.f1] : List ByteArray), u.size ≤ 281474976710656) ∧ rdW (writeB x) = (x, true) := fun x hxm =>
    write_back (hx x hxm).1 (hx x hxm).2 (hm _ (List.mem_map_of_mem hxm))
  refine ⟨texts_row _ _ (by omega) hm (by omega) (by omega), ?_, by omega, ?_, ?_⟩
  · intro t ht
    obtain ⟨x, hxm, rfl⟩ := List.mem_map.1 ht
    obtain ⟨h1, h2, h3⟩ := hb x hxm
    exact ⟨_, _, _, h1, h2, rdW_some h1⟩
  · unfold okAll
    rw [List.all_eq_true]
    intro t ht
    obtain ⟨x, hxm, rfl⟩ := List.mem_map.1 ht
    rw [(hb x hxm).2.2]
  · rw [List.map_map]
    conv => rhs; rw [← List.map_id l]
    apply List.map_congr_left
    intro x hxm
    show (rdW (writeB x)).1 = x
    rw [(hb x hxm).2.2]

set_option maxRecDepth 100000 in
theorem read_back (L M : List Int) (hL : Dig L) (hM : Dig M) (l m : List S46) (s : ByteArray) (hxl : ∀ x ∈ l, 0 ≤ x.f0 ∧ x.f0 ≤ 9223372036854775807) (hxm : ∀ x ∈ m, 0 ≤ x.f0 ∧ x.f0 ≤ 9223372036854775807)
    (hsz : (rowB (deltaT L l m s M)).length < 268435456) (w : World) (hv : Vars w) :
    Calls Tryz.prog 9 #[.string ⟨(rowB (deltaT L l m s M)).toArray⟩] w fun e w' => ∃ v, e = .returned (.tuple #[v, .int .i64 0]) ∧ DeltaAt w' w.heap.size v L l m s M ∧ Below w.heap.size w w' := by
  have hm : ∀ u ∈ deltaT L l m s M, u.size < 268435456 := fun u hu => Nat.lt_of_le_of_lt (rowB_mem hu) hsz
  have hT := texts_row (deltaT L l m s M) 268435500 (by simp [deltaT]) hm (by omega) (by simp [deltaT])
  have e4 := size_mk (rowB (l.map writeB))
  have e5 := size_mk (rowB (m.map writeB))
  have s4 := hm ⟨(rowB (l.map writeB)).toArray⟩ (by simp [deltaT])
  have s5 := hm ⟨(rowB (m.map writeB)).toArray⟩ (by simp [deltaT])
  obtain ⟨a1, a2, a3, a4, a5⟩ := writes_back hxl (by omega)
  obtain ⟨b1, b2, b3, b4, b5⟩ := writes_back hxm (by omega)
  have h := read_ok 268435500 ⟨(rowB (deltaT L l m s M)).toArray⟩ (strOfNums L) (strOfNums M) s ⟨(rowB (l.map writeB)).toArray⟩ ⟨(rowB (m.map writeB)).toArray⟩ hT (by rw [strOf_size, hL.len]) (by rw [strOf_size, hM.len]) rdW 268435500 (l.map writeB) a1 a2 a3 a4 268435500 (m.map writeB) b1 b2 b3 b4 w hv
  rw [a5, b5, bytesOf_str hL, bytesOf_str hM] at h
  exact h

/-! #### What became of an image -/
theorem chg_range {x y : List ByteArray} {n : Nat} (hn : n ≤ 1000) (hw : wt y ≤ 4000) : ∀ z ∈ chg x y n, 0 ≤ z.f0 ∧ z.f0 ≤ 9223372036854775807 ∧ z.f1.size ≤ 4000 := by
  intro z hz
  obtain ⟨j, hj, _, rfl⟩ := chg_mem.1 hz
  have := wt_at y j
  refine ⟨?_, ?_, ?_⟩
  · show 0 ≤ (j : Int)
    omega
  · show (j : Int) ≤ _
    omega
  · show (at_ y j).size ≤ _
    omega
theorem hasNeg_no {l : List S46} (h : ∀ z ∈ l, 0 ≤ z.f0) : hasNeg l = false := by
  unfold hasNeg
  rw [List.any_eq_false]
  intro z hz
  have := h z hz
  simp
  omega
theorem aOf_or (x y : S24) : aOf x y = noth ∨ aOf x y = x ∧ x.f0.length ≤ y.f0.length ∧ x.f1.length ≤ y.f1.length := by
  unfold aOf
  split
  · exact Or.inl rfl
  · exact Or.inr ⟨rfl, by omega, by omega⟩
theorem back_c (a b : S24) (hb : b.f0.length ≤ 5864062014805 ∧ b.f1.length ≤ 5864062014805) (hNA : iSum noth = iSum a → noth = a) :
    (imgSum a.f0 a.f1 a.f2 = iSum (aOf a b) ∧ aOf a b = a ∨ imgSum a.f0 a.f1 a.f2 ≠ iSum (aOf a b) ∧ emptySum = iSum (aOf a b) ∧ aOf a b = ⟨[], [], ⟨#[]⟩⟩) ∧
    delta_done.f 17592186044416 (aOf a b).f0 (chg (aOf a b).f0 b.f0 b.f0.length) = some (b.f0, 0) ∧ delta_done.f 17592186044416 (aOf a b).f1 (chg (aOf a b).f1 b.f1 b.f1.length) = some (b.f1, 0) := by
  have hp : (aOf a b).f0.length ≤ b.f0.length ∧ (aOf a b).f1.length ≤ b.f1.length := by
    rcases aOf_or a b with h | ⟨h, h0, h1⟩
    · rw [h]; exact ⟨Nat.zero_le _, Nat.zero_le _⟩
    · rw [h]; exact ⟨h0, h1⟩
  refine ⟨?_, done_f _ _ hp.1 hb.1 (by omega), done_f _ _ hp.2 hb.2 (by omega)⟩
  rcases aOf_or a b with h | ⟨h, _⟩
  · rw [h]
    by_cases h2 : imgSum a.f0 a.f1 a.f2 = iSum noth
    · exact Or.inl ⟨h2, hNA h2.symm⟩
    · exact Or.inr ⟨h2, rfl, rfl⟩
  · rw [h]
    exact Or.inl ⟨rfl, rfl⟩
end Go.Proofs.YtoljjgabgdifbaaGreatDoor.H


namespace Go.Proofs.YtoljjgabgdifbaaGreatDoor.H
open Go.RowKit Go.Proofs.YtoljjgabgdifbaaGreatDoorW.PrintWords Go.Proofs.YtoljjgabgdifbaaGreatDoorW.PrintLast Go.Proofs.YtoljjgabgdifbaaGreatDoorW.PrintMore
attribute [local go_sem] max2_int min2_int max_two min_two max_three min_three max_four min_four
set_option linter.unusedVariables false
set_option linter.unusedSimpArgs false

theorem aptB_apt {l : List ByteArray} (h : aptB l = true) : Apt l l.length := by unfold aptB at h; simpa using h
theorem wt_len : ∀ l : List ByteArray, 4 * l.length ≤ wt l
  | [] => Nat.le_refl _
  | s :: l => by
    have := wt_len l
    simp only [wt, List.length_cons]
    omega
theorem writes_l0 (x y : List ByteArray) (hy : y.length ≤ 5864062014805) : ∀ (d i k : Nat), i + d = y.length → d < k → delta_writes.l0 k x (chg x y i) y (y.length : Int) (i : Int) = some (chg x y y.length)
  | 0, i, k, h, hk => by
    obtain ⟨k, rfl⟩ : ∃ m, k = m + 1 := ⟨k - 1, by omega⟩
    rw [delta_writes.l0, if_neg (by omega)]
    rw [show i = y.length by omega]
  | d + 1, i, k, h, hk => by
    obtain ⟨k, rfl⟩ : ∃ m, k = m + 1 := ⟨k - 1, by omega⟩
    have ih := writes_l0 x y hy d (i + 1) k (by omega) (by omega)
    have hl := chg_len x y i
    rw [delta_writes.l0, if_pos (by omega), if_pos (by omega), if_pos (by omega), wrap_succ (show i < y.length by omega) hy, rdOf_at, rdOf_at]
    by_cases c : x.length ≤ i
    · rw [if_pos (by omega), if_pos (by omega)]
      rw [chg, if_pos (by simp [unlike, c])] at ih
      exact ih
    · rw [if_neg (by omega), if_pos (by omega)]
      by_cases e : (at_ x i).toList = (at_ y i).toList
      · rw [if_pos e]
        rw [chg, if_neg (by simp [unlike, c, e])] at ih
        exact ih
      · rw [if_neg e, if_pos (by omega)]
        rw [chg, if_pos (by simp [unlike, e])] at ih
        exact ih
theorem writes_f (x y : List ByteArray) (hy : y.length ≤ 5864062014805) {k : Nat} (hk : y.length < k) : delta_writes.f k x y = some (chg x y y.length) := by
  unfold delta_writes.f
  exact writes_l0 x y hy y.length 0 k (by omega) hk

theorem imgs2z {w : World} {g : Nat} (A0 : Option Addr) (c0 : Nat) (A1 : Option Addr) (c1 : Nat) (a : S24) (P0 : Option Addr) (p0 : Nat) (P1 : Option Addr) (p1 : Nat) (b : S24)
    (hA0 : Kd.C Kd.string w A0 a.f0.length a.f0) (ha0 : a.f0.length ≤ c0) (hA1 : Kd.C Kd.string w A1 a.f1.length a.f1) (ha1 : a.f1.length ≤ c1)
    (hP0 : Kd.C Kd.string w P0 b.f0.length b.f0) (hp0 : b.f0.length ≤ p0) (hP1 : Kd.C Kd.string w P1 b.f1.length b.f1) (hp1 : b.f1.length ≤ p1)
    (h : Blk w g 24 #[.slice A0 a.f0.length c0, .slice A1 a.f1.length c1, .string a.f2, .slice P0 b.f0.length p0, .slice P1 b.f1.length p1, .string b.f2]) : Kd.C k24 w (some ⟨g, 0, none⟩) [a, b].length [a, b] := by
  refine ⟨rfl, by simp, fun _ => ⟨_, rfl, fun j p hp => ?_⟩⟩
  match j, hp with
  | 0, hp =>
    obtain rfl : a = p := by simpa using hp
    refine ⟨[.slice A0 a.f0.length c0, .slice A1 a.f1.length c1, .string a.f2], rfl, k24_mk w a ha0 hA0 ha1 hA1, fun i u hu => ?_⟩
    rw [add_plain, h.cell]
    match i, hu with
    | 0, hu => exact hu
    | 1, hu => exact hu
    | 2, hu => exact hu
    | i + 3, hu => simp at hu
  | 1, hp =>
    obtain rfl : b = p := by simpa using hp
    refine ⟨[.slice P0 b.f0.length p0, .slice P1 b.f1.length p1, .string b.f2], rfl, k24_mk w b hp0 hP0 hp1 hP1, fun i u hu => ?_⟩
    rw [add_plain, h.cell]
    match i, hu with
    | 0, hu => exact hu
    | 1, hu => exact hu
    | 2, hu => exact hu
    | i + 3, hu => simp at hu
  | j + 2, hp => simp at hp

theorem Kd.R_C {w : World} {base : Nat} {A : Option Addr} {c : Nat} {r : List S46} (h : Kd.R k46 46 w base (fun _ => True) (.slice A r.length c) r) : Kd.C k46 w A r.length r := (Kd.R_reads' h).2.2
theorem Kd.R_cap {w : World} {base : Nat} {A : Option Addr} {c : Nat} {r : List S46} (h : Kd.R k46 46 w base (fun _ => True) (.slice A r.length c) r) : r.length ≤ c := (Kd.R_reads' h).2.1
set_option maxRecDepth 100000 in
set_option maxHeartbeats 8000000 in
theorem back_calls (A0 : Option Addr) (c0 : Nat) (A1 : Option Addr) (c1 : Nat) (a : S24) (P0 : Option Addr) (p0 : Nat) (P1 : Option Addr) (p1 : Nat) (b : S24) (w : World)
    (hA0 : Kd.C Kd.string w A0 a.f0.length a.f0) (ha0 : a.f0.length ≤ c0) (hA1 : Kd.C Kd.string w A1 a.f1.length a.f1) (ha1 : a.f1.length ≤ c1)
    (hP0 : Kd.C Kd.string w P0 b.f0.length b.f0) (hp0 : b.f0.length ≤ p0) (hP1 : Kd.C Kd.string w P1 b.f1.length b.f1) (hp1 : b.f1.length ≤ p1)
    (hLa : (imageL a.f0 a.f1 a.f2).length ≤ 140737488355328) (hLb : (imageL b.f0 b.f1 b.f2).length ≤ 140737488355328)
    (hma : a.f0.length ≤ 5864062014805 ∧ a.f1.length ≤ 5864062014805) (hmb : b.f0.length ≤ 5864062014805 ∧ b.f1.length ≤ 5864062014805)
    (hta : wtI a ≤ 281474976710656) (htb : wtI b ≤ 281474976710656) (hv : Vars w) :
    Calls Tryz.prog 3 #[.agg #[.slice A0 a.f0.length c0, .slice A1 a.f1.length c1, .string a.f2], .agg #[.slice P0 b.f0.length p0, .slice P1 b.f1.length p1, .string b.f2]] w fun e w' => e = .returned (.bool true) ∧ Below w.heap.size w w' := by
  have HV := Aside0.mk hv
  clear hv
  have BA0 := (Blk.new w 24 #[.slice A0 a.f0.length c0, .slice A1 a.f1.length c1, .string a.f2]).alloc (.cells #[.slice P0 b.f0.length p0, .slice P1 b.f1.length p1, .string b.f2] 24)
  have BB0 := Blk.new (w.alloc (.cells #[.slice A0 a.f0.length c0, .slice A1 a.f1.length c1, .string a.f2] 24)) 24 #[.slice P0 b.f0.length p0, .slice P1 b.f1.length p1, .string b.f2]
  have W0 := ((Below.refl w.heap.size w).alloc (Nat.le_refl _) (.cells #[.slice A0 a.f0.length c0, .slice A1 a.f1.length c1, .string a.f2] 24)).alloc (by simp) (.cells #[.slice P0 b.f0.length p0, .slice P1 b.f1.length p1, .string b.f2] 24)
  rw [sz] at BB0
  generalize hw0 : ((w.alloc (.cells #[.slice A0 a.f0.length c0, .slice A1 a.f1.length c1, .string a.f2] 24)).alloc (.cells #[.slice P0 b.f0.length p0, .slice P1 b.f1.length p1, .string b.f2] 24)) = w0 at BA0 BB0 W0
  have HW0 := Aside0.mk hw0
  clear hw0
  obtain ⟨kg, rg, hg⟩ := great_f 5864062014805 [a, b] (by simp) (by simp; omega) (Nat.le_refl _)
  have hgn : rg = false → wtS [a, b] ≤ 4000 := fun h => great_no (k := kg) (by simp) (by simp; omega) (by simp only [wtS]; omega) (by rw [← h]; exact hg)
  have HGN := Aside0.mk hgn
  clear hgn
  have hap := apart_f [a, b] (by simp) (by simp only [List.mem_cons, List.not_mem_nil, or_false]; rintro x (rfl | rfl); exact ⟨hma.1, hma.2, hLa⟩; exact ⟨hmb.1, hmb.2, hLb⟩) (k := 281474976711656) (by simp)
  have W1 := W0.alloc W0.size (.cells #[.slice A0 a.f0.length c0, .slice A1 a.f1.length c1, .string a.f2, .slice P0 b.f0.length p0, .slice P1 b.f1.length p1, .string b.f2] 24)
  have GC := Aside0.mk (hibernaclelaw35_great.calls kg _ 2 [a, b] rg _ (imgs2z A0 c0 A1 c1 a P0 p0 P1 p1 b (Kd.C_below hA0 W1) ha0 (Kd.C_below hA1 W1) ha1 (Kd.C_below hP0 W1) hp0 (Kd.C_below hP1 W1) hp1 (Blk.new w0 24 #[.slice A0 a.f0.length c0, .slice A1 a.f1.length c1, .string a.f2, .slice P0 b.f0.length p0, .slice P1 b.f1.length p1, .string b.f2])) (by simp) hg)
  have BA1 := Aside0.mk (BA0.alloc (.cells #[.slice A0 a.f0.length c0, .slice A1 a.f1.length c1, .string a.f2, .slice P0 b.f0.length p0, .slice P1 b.f1.length p1, .string b.f2] 24))
  have BB1 := Aside0.mk (BB0.alloc (.cells #[.slice A0 a.f0.length c0, .slice A1 a.f1.length c1, .string a.f2, .slice P0 b.f0.length p0, .slice P1 b.f1.length p1, .string b.f2] 24))
  have BA0 := Aside0.mk BA0
  have BB0 := Aside0.mk BB0
  have W0 := Aside0.mk W0
  have W1 := Aside0.mk W1
  have APT := Aside0.mk (fun h => aptB_apt (l := (noth :: [a, b]).map imgB) h)
  generalize aptB ((noth :: [a, b]).map imgB) = ra at hap APT
  clear hg
  go_enter Tryz.func3, Tryz.ntmps3
  go_wp2_with (first | (rw [show ((w.alloc (.cells #[.slice A0 a.f0.length c0, .slice A1 a.f1.length c1, .string a.f2] 24)).alloc (.cells #[.slice P0 b.f0.length p0, .slice P1 b.f1.length p1, .string b.f2] 24)) = w0 from HW0.out]) | (refine wpList_load_midg (by rfl) 24 (.tmp 2) rfl w.heap.size 0 rfl _ (loadAt_row BA0.out Tryz.underlying24 rfl (by kernel_rfl)) ?_) | (refine wpList_load_midg (by rfl) 24 (.tmp 3) rfl (w.heap.size + 1) 0 rfl _ (loadAt_row BB0.out Tryz.underlying24 rfl (by kernel_rfl)) ?_))
  refine (GC.out).mono ?_
  rintro e w2 ⟨rfl, hb⟩
  have BA2 := Aside0.mk (BA1.out.below hb BA1.out.lt); have BB2 := Aside0.mk (BB1.out.below hb BB1.out.lt); have W2 := Aside0.mk (below_then W1.out W1.out.size hb)
  clear hb GC BA0 BB0 W0 BA1 BB1 W1 HW0
  cases rg with
  | true =>
    go_wp2_with ((with_reducible refine (fixed_calls _).mono ?_); rintro e wf ⟨rfl, hb⟩; have WF := Aside0.mk (below_then W2.out W2.out.size hb); clear hb)
    go_wp2_with fail
    go_ret
    exact ⟨rfl, WF.out⟩
  | false =>
    have HG := Aside0.mk (HGN.out rfl)
    clear HGN
    have W4 := W2.out.alloc W2.out.size (.cells #[.slice A0 a.f0.length c0, .slice A1 a.f1.length c1, .string a.f2, .slice P0 b.f0.length p0, .slice P1 b.f1.length p1, .string b.f2] 24)
    have AC := Aside0.mk (hibernaclelaw35_apart.calls 281474976711656 _ 2 [a, b] ra _ (imgs2z A0 c0 A1 c1 a P0 p0 P1 p1 b (Kd.C_below hA0 W4) ha0 (Kd.C_below hA1 W4) ha1 (Kd.C_below hP0 W4) hp0 (Kd.C_below hP1 W4) hp1 (Blk.new w2 24 #[.slice A0 a.f0.length c0, .slice A1 a.f1.length c1, .string a.f2, .slice P0 b.f0.length p0, .slice P1 b.f1.length p1, .string b.f2])) (by simp) hap)
    have BA4 := Aside0.mk (BA2.out.alloc (.cells #[.slice A0 a.f0.length c0, .slice A1 a.f1.length c1, .string a.f2, .slice P0 b.f0.length p0, .slice P1 b.f1.length p1, .string b.f2] 24))
    have BB4 := Aside0.mk (BB2.out.alloc (.cells #[.slice A0 a.f0.length c0, .slice A1 a.f1.length c1, .string a.f2, .slice P0 b.f0.length p0, .slice P1 b.f1.length p1, .string b.f2] 24))
    have W4 := Aside0.mk W4
    clear hap
    go_wp2_with (first | (refine wpList_load_midg (by rfl) 24 (.tmp 2) rfl w.heap.size 0 rfl _ (loadAt_row BA2.out Tryz.underlying24 rfl (by kernel_rfl)) ?_) | (refine wpList_load_midg (by rfl) 24 (.tmp 3) rfl (w.heap.size + 1) 0 rfl _ (loadAt_row BB2.out Tryz.underlying24 rfl (by kernel_rfl)) ?_))
    refine (AC.out).mono ?_
    rintro e w5 ⟨rfl, hb⟩
    have BA5 := Aside0.mk (BA4.out.below hb BA4.out.lt); have BB5 := Aside0.mk (BB4.out.below hb BB4.out.lt); have W5 := Aside0.mk (below_then W4.out W4.out.size hb)
    clear hb AC BA2 BB2 W2 BA4 BB4 W4
    cases ra with
    | false =>
      go_wp2_with ((with_reducible refine (fixed_calls _).mono ?_); rintro e wf ⟨rfl, hb⟩; have WF := Aside0.mk (below_then W5.out W5.out.size hb); clear hb)
      go_wp2_with fail
      go_ret
      exact ⟨rfl, WF.out⟩
    | true =>
      have apt := APT.out rfl
      rw [List.length_map] at apt
      have iNA : iSum noth = iSum a → noth = a := fun h => apt_inj apt (i := 0) (j := 1) (by simp) (by simp) h
      have hGG := HG.out
      simp only [wtS] at hGG
      have bnd : b.f0.length ≤ 1000 ∧ b.f1.length ≤ 1000 ∧ wt b.f0 ≤ 4000 ∧ wt b.f1 ≤ 4000 ∧ b.f2.size ≤ 4000 := by
        have h0 := wt_len b.f0
        have h1 := wt_len b.f1
        have h2 : wtI b ≤ 4000 := by omega
        unfold wtI at h2
        omega
      obtain ⟨hcase, hd0, hd1⟩ := back_c a b hmb iNA
      have hr1 := writes_f (aOf a b).f0 b.f0 hmb.1 (k := 5864062014806) (by omega)
      have hr2 := writes_f (aOf a b).f1 b.f1 hmb.2 (k := 5864062014806) (by omega)
      have g1 := chg_range (x := (aOf a b).f0) bnd.1 bnd.2.2.1
      have g2 := chg_range (x := (aOf a b).f1) bnd.2.1 bnd.2.2.2.1
      have l1 := chg_len (aOf a b).f0 b.f0 b.f0.length
      have l2 := chg_len (aOf a b).f1 b.f1 b.f1.length
      have OC := of_calls 5864062014806 A0 c0 A1 c1 a P0 p0 P1 p1 b _ _ w5 (Kd.C_below hA0 W5.out) ha0 (Kd.C_below hA1 W5.out) ha1 (Kd.C_below hP0 W5.out) hp0 (Kd.C_below hP1 W5.out) hp1 hLa hLb hr1 hr2
      obtain ⟨ri2, hi2, hir2⟩ := images_f b b hmb.1 hmb.2 (k := 5864062014806) (by omega)
      obtain rfl : ri2 = true := hir2.2 rfl
      have DL : Dig (iSum (aOf a b)) := imgSum_dig _ _ _
      have DM : Dig (iSum b) := imgSum_dig _ _ _
      change Calls Tryz.prog 7 _ w5 (fun e w' => ∃ A1 c1 A2 c2, e = .returned (.agg (dArr (iSum (aOf a b)) _ _ _ (iSum b))) ∧ _ ∧ _ ∧ _) at OC
      have hsum : imgSum b.f0 b.f1 b.f2 = iSum b := rfl
      generalize iSum (aOf a b) = L at OC DL hcase
      generalize iSum b = M at OC DM hsum
      generalize chg (aOf a b).f0 b.f0 b.f0.length = r1 at OC hd0 g1 l1
      generalize chg (aOf a b).f1 b.f1 b.f1.length = r2 at OC hd1 g2 l2
      generalize aOf a b = y at hcase hd0 hd1
      have hsz := deltaT_len DL DM (l := r1) (m := r2) (s := b.f2) (by omega) (by omega) bnd.2.2.2.2 g1 g2
      have HSZ := Aside0.mk hsz
      have hL := Aside0.mk DL
      have hM := Aside0.mk DM
      have G1 := Aside0.mk g1
      have G2 := Aside0.mk g2
      have N1 := Aside0.mk (hasNeg_no (fun z hz => (g1 z hz).1))
      have N2 := Aside0.mk (hasNeg_no (fun z hz => (g2 z hz).1))
      have HSU := Aside0.mk hsum
      have HCASE := Aside0.mk hcase
      have LL := Aside0.mk (show r1.length ≤ 1000 ∧ r2.length ≤ 1000 from ⟨by omega, by omega⟩)
      have OC := Aside0.mk OC
      clear hr1 hr2 iNA apt bnd hGG HG hir2 DL DM hsum hcase hsz g1 g2 l1 l2
      go_wp2_with (first | (refine wpList_load_midg (by rfl) 24 (.tmp 2) rfl w.heap.size 0 rfl _ (loadAt_row BA5.out Tryz.underlying24 rfl (by kernel_rfl)) ?_) | (refine wpList_load_midg (by rfl) 24 (.tmp 3) rfl (w.heap.size + 1) 0 rfl _ (loadAt_row BB5.out Tryz.underlying24 rfl (by kernel_rfl)) ?_) | ((with_reducible refine OC.out.mono ?_); rintro e w6 ⟨U1, u1, U2, u2, rfl, hR1, hR2, hb⟩; have R16 := Aside0.mk hR1; have R26 := Aside0.mk hR2; have BA6 := Aside0.mk (BA5.out.below hb BA5.out.lt); have BB6 := Aside0.mk (BB5.out.below hb BB5.out.lt); have W6 := Aside0.mk (below_then W5.out W5.out.size hb); have D6 := Aside0.mk (Blk.new w6 31 Tryz.zeroCells31); clear hR1 hR2 hb) | (refine wpList_store_row rfl 31 (.tmp 5) (.tmp 26) rfl w6.heap.size _ rfl rfl 31 _ D6.out (by rw [dArr_size hL.out.len hM.out.len]; kernel_rfl) (by rw [dArr_size hL.out.len hM.out.len]; kernel_rfl) (dArr_one _ _ _ _ _ _ _ _ _) ?_; have BA7 := Aside0.mk ((BA6.out.alloc (.cells Tryz.zeroCells31 31)).setRow_far (k := w6.heap.size) (by have := BA6.out.lt; omega) (dArr L (.slice U1 r1.length u1) (.slice U2 r2.length u2) b.f2 M)); have BB7 := Aside0.mk ((BB6.out.alloc (.cells Tryz.zeroCells31 31)).setRow_far (k := w6.heap.size) (by have := BB6.out.lt; omega) (dArr L (.slice U1 r1.length u1) (.slice U2 r2.length u2) b.f2 M)); have E7 := Aside0.mk (D6.out.setRow_ (dArr L (.slice U1 r1.length u1) (.slice U2 r2.length u2) b.f2 M)); have R17 := Aside0.mk (R_setRowT (Kd.R_alloc R16.out (.cells Tryz.zeroCells31 31)) D6.out (by decide) (dArr L (.slice U1 r1.length u1) (.slice U2 r2.length u2) b.f2 M)); have R27 := Aside0.mk (R_setRowT (Kd.R_alloc R26.out (.cells Tryz.zeroCells31 31)) D6.out (by decide) (dArr L (.slice U1 r1.length u1) (.slice U2 r2.length u2) b.f2 M)); have W7 := Aside0.mk (below_setRow' (W6.out.alloc W6.out.size (.cells Tryz.zeroCells31 31)) W6.out.size (dArr L (.slice U1 r1.length u1) (.slice U2 r2.length u2) b.f2 M)); generalize (w6.alloc (.cells Tryz.zeroCells31 31)).setRow w6.heap.size (dArr L (.slice U1 r1.length u1) (.slice U2 r2.length u2) b.f2 M) = w7 at BA7 BB7 E7 R17 R27 W7 ⊢; generalize w6.heap.size = gd at E7 ⊢; have V7 := Aside0.mk (Vars.below HV.out W7.out); clear D6) | (refine wpList_load_midg (by rfl) 31 (.tmp 5) rfl gd 0 rfl _ (loadAt_row E7.out Tryz.underlying31 rfl (by rw [dArr_size hL.out.len hM.out.len]; kernel_rfl)) ?_) | ((with_reducible refine (bytes_calls L M hL.out hM.out U1 u1 r1 U2 u2 r2 b.f2 w7 (Kd.R_C R17.out) (Kd.R_cap R17.out) (Kd.R_C R27.out) (Kd.R_cap R27.out) (by have := LL.out; omega) (by have := LL.out; omega) V7.out.tab (fun z hz => ⟨by have := G1.out z hz; omega, (G1.out z hz).2.1⟩) (fun z hz => ⟨by have := G2.out z hz; omega, (G2.out z hz).2.1⟩) N1.out N2.out (by have := HSZ.out; omega)).mono ?_); rintro e w8 ⟨rfl, hb⟩; have BA8 := Aside0.mk (BA7.out.below hb BA7.out.lt); have BB8 := Aside0.mk (BB7.out.below hb BB7.out.lt); have W8 := Aside0.mk (below_then W7.out W7.out.size hb); have V8 := Aside0.mk (Vars.below HV.out W8.out); clear hb))
      have RB := Aside0.mk (read_back L M hL.out hM.out r1 r2 b.f2 (fun z hz => ⟨(G1.out z hz).1, (G1.out z hz).2.1⟩) (fun z hz => ⟨(G2.out z hz).1, (G2.out z hz).2.1⟩) HSZ.out w8 V8.out)
      refine (RB.out).mono ?_
      rintro e w9 ⟨v, rfl, ⟨T1, t1, T2, t2, rfl, hR1, hR2⟩, hb⟩
      have R19 := Aside0.mk hR1
      have R29 := Aside0.mk hR2
      have BA9 := Aside0.mk (BA8.out.below hb BA8.out.lt)
      have BB9 := Aside0.mk (BB8.out.below hb BB8.out.lt)
      have W9 := Aside0.mk (below_then W8.out W8.out.size hb)
      have D9 := Aside0.mk (Blk.new w9 31 Tryz.zeroCells31)
      clear hR1 hR2 hb RB OC
      go_wp2_with (first | (refine wpList_store_row rfl 31 (.tmp 8) (.tmp 35) rfl w9.heap.size _ rfl rfl 31 _ D9.out (by rw [dArr_size hL.out.len hM.out.len]; kernel_rfl) (by rw [dArr_size hL.out.len hM.out.len]; kernel_rfl) (dArr_one _ _ _ _ _ _ _ _ _) ?_; have BA10 := Aside0.mk ((BA9.out.alloc (.cells Tryz.zeroCells31 31)).setRow_far (k := w9.heap.size) (by have := BA9.out.lt; omega) (dArr L (.slice T1 r1.length t1) (.slice T2 r2.length t2) b.f2 M)); have BB10 := Aside0.mk ((BB9.out.alloc (.cells Tryz.zeroCells31 31)).setRow_far (k := w9.heap.size) (by have := BB9.out.lt; omega) (dArr L (.slice T1 r1.length t1) (.slice T2 r2.length t2) b.f2 M)); have E10 := Aside0.mk (D9.out.setRow_ (dArr L (.slice T1 r1.length t1) (.slice T2 r2.length t2) b.f2 M)); have R110 := Aside0.mk (R_setRowT (Kd.R_alloc R19.out (.cells Tryz.zeroCells31 31)) D9.out (by decide) (dArr L (.slice T1 r1.length t1) (.slice T2 r2.length t2) b.f2 M)); have R210 := Aside0.mk (R_setRowT (Kd.R_alloc R29.out (.cells Tryz.zeroCells31 31)) D9.out (by decide) (dArr L (.slice T1 r1.length t1) (.slice T2 r2.length t2) b.f2 M)); have W10 := Aside0.mk (below_setRow' (W9.out.alloc W9.out.size (.cells Tryz.zeroCells31 31)) W9.out.size (dArr L (.slice T1 r1.length t1) (.slice T2 r2.length t2) b.f2 M)); generalize (w9.alloc (.cells Tryz.zeroCells31 31)).setRow w9.heap.size (dArr L (.slice T1 r1.length t1) (.slice T2 r2.length t2) b.f2 M) = w10 at BA10 BB10 E10 R110 R210 W10 ⊢; generalize w9.heap.size = gx at E10 ⊢; clear D9) | (refine wpList_load_midg (by rfl) 24 (.tmp 2) rfl w.heap.size 0 rfl _ (loadAt_row BA10.out Tryz.underlying24 rfl (by kernel_rfl)) ?_) | (refine wpList_load_midg (by rfl) 31 (.tmp 8) rfl gx 0 rfl _ (loadAt_row E10.out Tryz.underlying31 rfl (by rw [dArr_size hL.out.len hM.out.len]; kernel_rfl)) ?_) | ((with_reducible refine (apply_ok 17592186044416 b.f0 b.f1 y L M hL.out hM.out A0 c0 A1 c1 a T1 t1 r1 T2 t2 r2 b.f2 _ (Kd.C_below hA0 W10.out) ha0 (Kd.C_below hA1 W10.out) ha1 hLa (Kd.R_C R110.out) (Kd.R_cap R110.out) (Kd.R_C R210.out) (Kd.R_cap R210.out) HCASE.out hd0 hd1 HSU.out hLb).mono ?_); rintro e w11 ⟨Y0, d0, Y1, d1, rfl, kk0, mm0, kk1, mm1, hb⟩; have BB11 := Aside0.mk (BB10.out.below hb BB10.out.lt); have W11 := Aside0.mk (below_then W10.out W10.out.size hb); have k0 := Aside0.mk (Kd.C_below kk0 ((Below.refl w11.heap.size w11).alloc (Nat.le_refl _) (.cells #[.slice Y0 b.f0.length d0, .slice Y1 b.f1.length d1, .string b.f2] 24))); have k1 := Aside0.mk (Kd.C_below kk1 ((Below.refl w11.heap.size w11).alloc (Nat.le_refl _) (.cells #[.slice Y0 b.f0.length d0, .slice Y1 b.f1.length d1, .string b.f2] 24))); have m0 := Aside0.mk mm0; have m1 := Aside0.mk mm1; have BG12 := Aside0.mk (Blk.new w11 24 #[.slice Y0 b.f0.length d0, .slice Y1 b.f1.length d1, .string b.f2]); have BB12 := Aside0.mk (BB11.out.alloc (.cells #[.slice Y0 b.f0.length d0, .slice Y1 b.f1.length d1, .string b.f2] 24)); have W12 := Aside0.mk (W11.out.alloc W11.out.size (.cells #[.slice Y0 b.f0.length d0, .slice Y1 b.f1.length d1, .string b.f2] 24)); clear hb kk0 kk1 mm0 mm1) | ((with_reducible refine (fixed_calls _).mono ?_); rintro e wf ⟨rfl, hb⟩; have BG13 := Aside0.mk (BG12.out.below hb BG12.out.lt); have BB13 := Aside0.mk (BB12.out.below hb BB12.out.lt); have W13 := Aside0.mk (below_then W12.out W12.out.size hb); have WGF := Aside0.mk hb; clear hb) | (refine wpList_load_midg (by rfl) 24 (.tmp 10) rfl w11.heap.size 0 rfl _ (loadAt_row BG13.out Tryz.underlying24 rfl (by kernel_rfl)) ?_) | (refine wpList_load_midg (by rfl) 24 (.tmp 3) rfl (w.heap.size + 1) 0 rfl _ (loadAt_row BB13.out Tryz.underlying24 rfl (by kernel_rfl)) ?_))
      refine (hibernacleref35_Images.calls 5864062014806 Y0 d0 b.f0 Y1 d1 b.f1 b.f2 P0 p0 b.f0 P1 p1 b.f1 b.f2 true wf (Kd.C_below k0.out WGF.out) m0.out (Kd.C_below k1.out WGF.out) m1.out (Kd.C_below hP0 W13.out) hp0 (Kd.C_below hP1 W13.out) hp1 hi2).mono ?_
      rintro e wz ⟨rfl, hb⟩
      have WZ := below_then W13.out W13.out.size hb
      clear hb
      go_wp2_with fail
      go_ret
      exact ⟨rfl, WZ⟩
end Go.Proofs.YtoljjgabgdifbaaGreatDoor.H

