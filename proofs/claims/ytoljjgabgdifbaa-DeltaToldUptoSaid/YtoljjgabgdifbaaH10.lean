/- Layer 31 of the program: an image as bytes. -/
import Derived.Test.YtoljjgabgdifbaaH9
namespace Go.Proofs.Ytoljjgabgdifbaa.H
open Go.RowKit Go.Proofs.YtoljjgabgdifbaaW.PrintWords Go.Proofs.YtoljjgabgdifbaaW.PrintLast Go.Proofs.YtoljjgabgdifbaaW.PrintMore
set_option linter.unusedVariables false
set_option linter.unusedSimpArgs false

theorem strings_at {w : World} {g : Nat} {t : TypeId} {xs : List ByteArray} (h : Blk w g t (xs.map Value.string).toArray) (hl : xs.length ≤ 9223372036854775807) : Kd.C Kd.string w (some ⟨g, 0, none⟩) xs.length xs := by
  refine Kd.C_of_reads (d := ByteArray.empty) ⟨rfl, hl, fun _ => ⟨_, rfl, fun j hj => ?_⟩⟩
  rw [add_plain, h.cell]
  simp [List.getElem?_eq_getElem hj, List.getD_eq_getElem?_getD]
theorem strings_new (w : World) (xs : List ByteArray) (hl : xs.length ≤ 9223372036854775807) : Kd.C Kd.string (w.alloc (.cells (xs.map Value.string).toArray 9)) (some ⟨w.heap.size, 0, none⟩) xs.length xs :=
  strings_at (Blk.new w 9 _) hl
def hibi : ByteArray := ⟨#[104, 105, 98, 105]⟩
/-- An image as bytes. -/
def imageL (f0 f1 : List ByteArray) (s : ByteArray) : List UInt8 := rowB [hibi, ⟨(rowB f0).toArray⟩, ⟨(rowB f1).toArray⟩, s]
theorem imageL_len (f0 f1 : List ByteArray) (s : ByteArray) : (rowB f0).length + (rowB f1).length + s.size ≤ (imageL f0 f1 s).length := by
  have e : ∀ l : List UInt8, (ByteArray.mk l.toArray).data.toList = l := fun l => rfl
  simp only [imageL, rowB, e, List.length_append, Array.length_toList, List.length_nil]
  have : s.data.size = s.size := rfl
  omega

set_option maxRecDepth 100000 in
set_option maxHeartbeats 8000000 in
theorem imageBytes_calls (A0 : Option Addr) (c0 : Nat) (f0 : List ByteArray) (A1 : Option Addr) (c1 : Nat) (f1 : List ByteArray) (s : ByteArray) (w : World) (h0 : Kd.C Kd.string w A0 f0.length f0) (l0 : f0.length ≤ c0) (h1 : Kd.C Kd.string w A1 f1.length f1) (l1 : f1.length ≤ c1)
    (hL : (imageL f0 f1 s).length ≤ 140737488355328) :
    Calls Try.prog 37 #[.agg #[.slice A0 f0.length c0, .slice A1 f1.length c1, .string s]] w fun e w' => e = .returned (.string ⟨(imageL f0 f1 s).toArray⟩) ∧ Below w.heap.size w w' := by
  have hl := imageL_len f0 f1 s
  have hL2 : (rowB [hibi, ⟨(rowB f0).toArray⟩, ⟨(rowB f1).toArray⟩, s]).length ≤ 140737488355328 := hL
  have B0 := Aside0.mk (Blk.new w 24 #[.slice A0 f0.length c0, .slice A1 f1.length c1, .string s])
  have W0 := Aside0.mk ((Below.refl w.heap.size w).alloc (Nat.le_refl _) (.cells #[.slice A0 f0.length c0, .slice A1 f1.length c1, .string s] 24))
  go_enter Try.func37, Try.ntmps37
  go_wp2_with fail
  generalize w.alloc (.cells #[.slice A0 f0.length c0, .slice A1 f1.length c1, .string s] 24) = w0 at B0 W0 ⊢
  have B1 := Aside0.mk B0.out.drew
  have W1 := Aside0.mk (below_drew W0.out)
  refine start_ (n := 11) (S := fun w' => w'.cell? ⟨w.heap.size, 0, none⟩ = some (.slice A0 f0.length c0) ∧ w'.cell? ⟨w.heap.size, 1, none⟩ = some (.slice A1 f1.length c1) ∧ w'.cell? ⟨w.heap.size, 2, none⟩ = some (.string s)) (ds := []) #[false, false, false, false, false, false, false, false, false, false, false] (by kernel_rfl) rfl rfl ⟨(B0.out.drew.cell 0), (B0.out.drew.cell 1), (B0.out.drew.cell 2)⟩ (fun hHeld => ?_)
  refine pure_ (i := 0) (N := some 3) (v := ?_) (a' := ?_) #[true, false, false, false, false, false, false, false, false, false, false] rfl rfl (by kernel_rfl) (fun _ _ _ h => h) (Or.inl ⟨by rfl, ?_⟩) ?_ ?_
  rotate_left
  · intro w'
    go_simp
    with_reducible rfl
  rotate_left
  · simp only [Act.put, List.setIfInBounds_toArray, List.set_cons_zero, List.set_cons_succ, i64_w, i32_w]
    rfl
  refine pure_ (i := 3) (N := some 6) (v := ?_) (a' := ?_) #[true, false, false, true, false, false, false, false, false, false, false] rfl rfl (by kernel_rfl) (fun _ _ _ h => h) (Or.inl ⟨by rfl, ?_⟩) ?_ ?_
  rotate_left
  · intro w'
    go_simp
    with_reducible rfl
  rotate_left
  · simp only [Act.put, List.setIfInBounds_toArray, List.set_cons_zero, List.set_cons_succ, i64_w, i32_w]
    rfl
  refine pure_ (i := 6) (N := some 9) (v := ?_) (a' := ?_) #[true, false, false, true, false, false, true, false, false, false, false] rfl rfl (by kernel_rfl) (fun _ _ _ h => h) (Or.inl ⟨by rfl, ?_⟩) ?_ ?_
  rotate_left
  · intro w'
    go_simp
    with_reducible rfl
  rotate_left
  · simp only [Act.put, List.setIfInBounds_toArray, List.set_cons_zero, List.set_cons_succ, i64_w, i32_w]
    rfl
  refine take_ (i := 1) (N := some 4) (v := ?_) (a' := ?_) #[true, true, false, true, false, false, true, false, false, false, false] rfl rfl (by kernel_rfl) (fun _ _ _ h => h) (Or.inl ⟨by rfl, ?_⟩) hHeld ?_ ?_
  rotate_left
  · rintro w' ⟨s0, s1, s2⟩
    go_simp
    with_reducible rfl
  rotate_left
  · simp only [Act.put, List.setIfInBounds_toArray, List.set_cons_zero, List.set_cons_succ, i64_w, i32_w]
    rfl
  refine take_ (i := 4) (N := some 7) (v := ?_) (a' := ?_) #[true, true, false, true, true, false, true, false, false, false, false] rfl rfl (by kernel_rfl) (fun _ _ _ h => h) (Or.inl ⟨by rfl, ?_⟩) hHeld ?_ ?_
  rotate_left
  · rintro w' ⟨s0, s1, s2⟩
    go_simp
    with_reducible rfl
  rotate_left
  · simp only [Act.put, List.setIfInBounds_toArray, List.set_cons_zero, List.set_cons_succ, i64_w, i32_w]
    rfl
  refine take_ (i := 7) (N := some 10) (v := ?_) (a' := ?_) #[true, true, false, true, true, false, true, true, false, false, false] rfl rfl (by kernel_rfl) (fun _ _ _ h => h) (Or.inl ⟨by rfl, ?_⟩) hHeld ?_ ?_
  rotate_left
  · rintro w' ⟨s0, s1, s2⟩
    go_simp
    with_reducible rfl
  rotate_left
  · simp only [Act.put, List.setIfInBounds_toArray, List.set_cons_zero, List.set_cons_succ, i64_w, i32_w]
    rfl
  refine one_ (i := 2) (N := some 5) #[true, true, true, true, true, false, true, true, false, false, false] rfl rfl (by kernel_rfl) (by decide) (fun K hK => ?_)
  refine goes_ Try.func50 (by kernel_rfl) rfl #[.slice A0 f0.length c0] (by rfl) rfl rfl (by simp only [List.map_toArray, List.map_cons, List.map_nil]; rfl) ?_
  with_reducible refine (rowOf_calls A0 c0 f0 _ (Kd.C_below h0 W1.out) l0 (by omega)).mono ?_
  rintro e w3 ⟨rfl, hb⟩
  refine ⟨_, rfl, ?_⟩
  have B2 := Aside0.mk (B1.out.below hb B1.out.lt)
  have W2 := Aside0.mk (below_then W1.out W1.out.size hb)
  clear hb
  refine hK.out _ _ ⟨(B2.out.cell 0), (B2.out.cell 1), (B2.out.cell 2)⟩ (fun hHeld => ?_)
  clear hK K
  refine norm_ (a' := ?_) ?_ ?_
  rotate_left
  · show Act.put _ (some 5) _ = _
    simp only [Act.put, List.setIfInBounds_toArray, List.set_cons_zero, List.set_cons_succ, i64_w, i32_w]
    rfl
  refine one_ (i := 5) (N := some 8) #[true, true, true, true, true, true, true, true, false, false, false] rfl rfl (by kernel_rfl) (by decide) (fun K hK => ?_)
  refine goes_ Try.func50 (by kernel_rfl) rfl #[.slice A1 f1.length c1] (by rfl) rfl rfl (by simp only [List.map_toArray, List.map_cons, List.map_nil]; rfl) ?_
  with_reducible refine (rowOf_calls A1 c1 f1 _ (Kd.C_below h1 W2.out) l1 (by omega)).mono ?_
  rintro e w4 ⟨rfl, hb⟩
  refine ⟨_, rfl, ?_⟩
  have B3 := Aside0.mk (B2.out.below hb B2.out.lt)
  have W3 := Aside0.mk (below_then W2.out W2.out.size hb)
  clear hb
  refine hK.out _ _ ⟨(B3.out.cell 0), (B3.out.cell 1), (B3.out.cell 2)⟩ (fun hHeld => ?_)
  clear hK K
  refine norm_ (a' := ?_) ?_ ?_
  rotate_left
  · show Act.put _ (some 8) _ = _
    simp only [Act.put, List.setIfInBounds_toArray, List.set_cons_zero, List.set_cons_succ, i64_w, i32_w]
    rfl
  refine one_ (i := 8) (N := some 11) #[true, true, true, true, true, true, true, true, true, false, false] rfl rfl (by kernel_rfl) (by decide) (fun K hK => ?_)
  refine value_ (w1 := ?_) (v := ?_) (by rfl) rfl ?_ ?_
  rotate_left 2
  · go_simp
    constructor
    · rfl
    · rfl
  have B4 := Aside0.mk (B3.out.alloc (.cells (List.map Value.string [hibi, ⟨(rowB f0).toArray⟩, ⟨(rowB f1).toArray⟩, s]).toArray 9))
  have W4 := Aside0.mk (W3.out.alloc (by have := W3.out.size; omega) (.cells (List.map Value.string [hibi, ⟨(rowB f0).toArray⟩, ⟨(rowB f1).toArray⟩, s]).toArray 9))
  refine hK.out _ _ ⟨(B4.out.cell 0), (B4.out.cell 1), (B4.out.cell 2)⟩ (fun hHeld => ?_)
  clear hK K
  refine norm_ (a' := ?_) ?_ ?_
  rotate_left
  · show Act.put _ (some 11) _ = _
    simp only [Act.put, List.setIfInBounds_toArray, List.set_cons_zero, List.set_cons_succ, i64_w, i32_w]
    rfl
  refine one_ (i := 9) (N := some 12) #[true, true, true, true, true, true, true, true, true, true, false] rfl rfl (by kernel_rfl) (by decide) (fun K hK => ?_)
  refine goes_ Try.func50 (by kernel_rfl) rfl #[.slice (some ⟨w4.heap.size, 0, none⟩) [hibi, ⟨(rowB f0).toArray⟩, ⟨(rowB f1).toArray⟩, s].length 4] (by rfl) rfl rfl (by simp only [List.map_toArray, List.map_cons, List.map_nil]; rfl) ?_
  refine (rowOf_calls (some ⟨w4.heap.size, 0, none⟩) 4 [hibi, ⟨(rowB f0).toArray⟩, ⟨(rowB f1).toArray⟩, s] _ (strings_new w4 [hibi, ⟨(rowB f0).toArray⟩, ⟨(rowB f1).toArray⟩, s] (by simp)) (by simp) hL2).mono ?_
  rintro e w5 ⟨rfl, hb⟩
  refine ⟨_, rfl, ?_⟩
  have B5 := Aside0.mk (B4.out.below hb B4.out.lt)
  have W5 := Aside0.mk (below_then W4.out W4.out.size hb)
  clear hb
  refine hK.out _ _ ⟨(B5.out.cell 0), (B5.out.cell 1), (B5.out.cell 2)⟩ (fun hHeld => ?_)
  clear hK K
  refine norm_ (a' := ?_) ?_ ?_
  rotate_left
  · show Act.put _ (some 12) _ = _
    simp only [Act.put, List.setIfInBounds_toArray, List.set_cons_zero, List.set_cons_succ, i64_w, i32_w]
    rfl
  refine pure_ (i := 10) (N := some 2) (v := ?_) (a' := ?_) #[true, true, true, true, true, true, true, true, true, true, true] rfl rfl (by kernel_rfl) (fun _ _ _ h => h) (Or.inl ⟨by rfl, ?_⟩) ?_ ?_
  rotate_left
  · intro w'
    go_simp
    with_reducible rfl
  rotate_left
  · simp only [Act.put, List.setIfInBounds_toArray, List.set_cons_zero, List.set_cons_succ, i64_w, i32_w]
    rfl
  refine done_ (by kernel_rfl) ?_

  clear hHeld
  go_wp2_with fail
  go_ret
  exact ⟨rfl, W5.out⟩

/-- The digest of an image. -/
def imgSum (f0 f1 : List ByteArray) (s : ByteArray) : List Int := sumL ⟨(imageL f0 f1 s).toArray⟩
theorem imgSum_len (f0 f1 : List ByteArray) (s : ByteArray) : (imgSum f0 f1 s).length = 32 := sumL_len _

set_option maxRecDepth 100000 in
set_option maxHeartbeats 8000000 in
theorem imageSum_calls (A0 : Option Addr) (c0 : Nat) (f0 : List ByteArray) (A1 : Option Addr) (c1 : Nat) (f1 : List ByteArray) (s : ByteArray) (w : World) (h0 : Kd.C Kd.string w A0 f0.length f0) (l0 : f0.length ≤ c0) (h1 : Kd.C Kd.string w A1 f1.length f1) (l1 : f1.length ≤ c1)
    (hL : (imageL f0 f1 s).length ≤ 140737488355328) :
    Calls Try.prog 23 #[.agg #[.slice A0 f0.length c0, .slice A1 f1.length c1, .string s]] w fun e w' => e = .returned (.agg (nums .u8 (imgSum f0 f1 s)).toArray) ∧ Below w.heap.size w w' := by
  have B0 := Blk.new w 24 #[.slice A0 f0.length c0, .slice A1 f1.length c1, .string s]
  have W0 := (Below.refl w.heap.size w).alloc (Nat.le_refl _) (.cells #[.slice A0 f0.length c0, .slice A1 f1.length c1, .string s] 24)
  have D0 := Blk.new (w.alloc (.cells #[.slice A0 f0.length c0, .slice A1 f1.length c1, .string s] 24)) 29 (nums .u8 (outL [] 0)).toArray
  have B0 := Aside0.mk (B0.alloc (.cells (nums .u8 (outL [] 0)).toArray 29))
  have W0 := Aside0.mk (W0.alloc (by rw [sz]; omega) (.cells (nums .u8 (outL [] 0)).toArray 29))
  rw [sz] at D0
  have D0 := Aside0.mk D0
  generalize hw0 : (w.alloc (.cells #[.slice A0 f0.length c0, .slice A1 f1.length c1, .string s] 24)).alloc (.cells (nums .u8 (outL [] 0)).toArray 29) = w0 at B0 W0 D0
  have HW0 := Aside0.mk hw0
  clear hw0
  go_enter Try.func23, Try.ntmps23
  go_wp2_with (rw [show ((w.alloc (.cells #[.slice A0 f0.length c0, .slice A1 f1.length c1, .string s] 24)).alloc (.cells #[.int .u8 0, .int .u8 0, .int .u8 0, .int .u8 0, .int .u8 0, .int .u8 0, .int .u8 0, .int .u8 0, .int .u8 0, .int .u8 0, .int .u8 0, .int .u8 0, .int .u8 0, .int .u8 0, .int .u8 0, .int .u8 0, .int .u8 0, .int .u8 0, .int .u8 0, .int .u8 0, .int .u8 0, .int .u8 0, .int .u8 0, .int .u8 0, .int .u8 0, .int .u8 0, .int .u8 0, .int .u8 0, .int .u8 0, .int .u8 0, .int .u8 0, .int .u8 0] 29)) = w0 from HW0.out]; (refine wpList_load_row rfl 24 (.tmp 1) rfl w.heap.size rfl 24 _ (0, 0) _ B0.out Try.underlying24 rfl (by kernel_rfl) ?_))
  go_wp2_with ((with_reducible refine (imageBytes_calls A0 c0 f0 A1 c1 f1 s w0 (Kd.C_below h0 W0.out) l0 (Kd.C_below h1 W0.out) l1 hL).mono ?_); rintro e w1 ⟨rfl, hb⟩; have W1 := Aside0.mk (below_then W0.out W0.out.size hb); have D1 := Aside0.mk (D0.out.below hb D0.out.lt); clear hb)
  have W2 := W1.out.alloc (by have := W1.out.size; omega) (.cells #[.string ⟨(imageL f0 f1 s).toArray⟩] 9)
  have D2 := D1.out.alloc (.cells #[.string ⟨(imageL f0 f1 s).toArray⟩] 9)
  have S2 := (Blk.new w1 9 #[.string ⟨(imageL f0 f1 s).toArray⟩])
  generalize w1.alloc (.cells #[.string ⟨(imageL f0 f1 s).toArray⟩] 9) = w2 at W2 D2 S2 ⊢
  generalize w1.heap.size = g at S2 ⊢
  have S2l := S2.lt
  have W2 := Aside0.mk W2
  have D2 := Aside0.mk D2
  have S2 : Aside0 (w2.cell? ⟨g, 0, none⟩ = some (.string ⟨(imageL f0 f1 s).toArray⟩)) := ⟨S2.cell 0⟩
  have hL3 : (ByteArray.mk (imageL f0 f1 s).toArray).size ≤ 140737488355328 := by show (imageL f0 f1 s).toArray.size ≤ _; rw [List.size_toArray]; exact hL
  go_wp2_with (first | ((with_reducible refine (sum_calls g 0 1 ⟨(imageL f0 f1 s).toArray⟩ w2 S2.out S2l hL3 (Nat.le_refl _)).mono ?_); rintro e w3 ⟨rfl, hb⟩; have W3 := Aside0.mk (below_then W2.out W2.out.size hb); have D3 := Aside0.mk (D2.out.below hb D2.out.lt); clear hb) | (refine wpList_store_row rfl 29 (.tmp 2) (.tmp 6) rfl (w.heap.size + 1) _ rfl rfl 29 _ D3.out (by rw [List.size_toArray, nums_length, sumL_len]; kernel_rfl) (by rw [List.size_toArray, nums_length, outL_len, List.size_toArray, nums_length, sumL_len]) (nums_all8 _) ?_))
  exact bodyPost_ret (results_cell_row (p := 2) (ty := 29) rfl _ _ (w.heap.size + 1) 29 _ (0, 0) _ rfl (D3.out.setRow_ _) Try.underlying29 rfl (by rw [List.size_toArray, nums_length, sumL_len]; kernel_rfl)) rfl ⟨rfl, below_setRow' W3.out (by omega) _⟩
end Go.Proofs.Ytoljjgabgdifbaa.H
