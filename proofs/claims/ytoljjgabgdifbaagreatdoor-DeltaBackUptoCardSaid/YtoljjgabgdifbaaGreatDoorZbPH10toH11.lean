/- Parts of the proof: H10, G, C1, J1, H11. -/
import Derived.Test.YtoljjgabgdifbaaGreatDoorZbPH6toH9
import Derived.Test.YtoljjgabgdifbaaGreatDoorZbShelf
import Derived.DataReads
import Derived.Deep.MidRow
import Derived.Maps.OwnSet
import Derived.Maps.StringElems
import Derived.Maps.Views
namespace Go.Proofs.YtoljjgabgdifbaaGreatDoor.H
open Go.RowKit Go.Proofs.YtoljjgabgdifbaaGreatDoorW.PrintWords Go.Proofs.YtoljjgabgdifbaaGreatDoorW.PrintLast Go.Proofs.YtoljjgabgdifbaaGreatDoorW.PrintMore
set_option linter.unusedVariables false
set_option linter.unusedSimpArgs false

theorem strings_at {w : World} {g : Nat} {t : TypeId} {xs : List ByteArray} (h : Blk w g t (xs.map Value.string).toArray) (hl : xs.length ≤ 9223372036854775807) : Kd.C Kd.string w (some ⟨g, 0, none⟩) xs.length xs := by
  refine Kd.C_of_reads (d := ByteArray.empty) ⟨rfl, hl, fun _ => ⟨_, rfl, fun j hj => ?_⟩⟩
  rw [add_plain, h.cell]
  simp [List.getElem?_eq_getElem hj, List.getD_eq_getElem?_getD]
theorem strings_new (w : World) (xs : List ByteArray) (hl : xs.length ≤ 9223372036854775807) : Kd.C Kd.string (w.alloc (.cells (xs.map Value.string).toArray 9)) (some ⟨w.heap.size, 0, none⟩) xs.length xs :=
  strings_at (Blk.new w 9 _) hl
def hibi : ByteArray := ⟨#[104, 105, 98, 105]⟩
/-- An image as bytes. -/
def imageL (f0 f1 : List ByteArray) (s : ByteArray) : List UInt8 := rowB [hibi, ⟨(rowB f0).toArray⟩, ⟨(rowB f1).toArray⟩, s]
theorem imageL_len (f0 f1 : List ByteArray) (s : ByteArray) : (rowB f0).length + (rowB f1).length + s.size ≤ (imageL f0 f1 s).length := by
  have e : ∀ l : List UInt8, (ByteArray.mk l.toArray).data.toList = l := fun l => rfl
  simp only [imageL, rowB, e, List.length_append, Array.length_toList, List.length_nil]
  have : s.data.size = s.size := rfl
  omega

set_option maxRecDepth 100000 in
set_option maxHeartbeats 8000000 in
theorem imageBytes_calls (A0 : Option Addr) (c0 : Nat) (f0 : List ByteArray) (A1 : Option Addr) (c1 : Nat) (f1 : List ByteArray) (s : ByteArray) (w : World) (h0 : Kd.C Kd.string w A0 f0.length f0) (l0 : f0.length ≤ c0) (h1 : Kd.C Kd.string w A1 f1.length f1) (l1 : f1.length ≤ c1)
    (hL : (imageL f0 f1 s).length ≤ 140737488355328) :
    Calls Tryz.prog 32 #[.agg #[.slice A0 f0.length c0, .slice A1 f1.length c1, .string s]] w fun e w' => e = .returned (.string ⟨(imageL f0 f1 s).toArray⟩) ∧ Below w.heap.size w w' := by
  have hl := imageL_len f0 f1 s
  have hL2 : (rowB [hibi, ⟨(rowB f0).toArray⟩, ⟨(rowB f1).toArray⟩, s]).length ≤ 140737488355328 := hL
  have B0 := Aside0.mk (Blk.new w 24 #[.slice A0 f0.length c0, .slice A1 f1.length c1, .string s])
  have W0 := Aside0.mk ((Below.refl w.heap.size w).alloc (Nat.le_refl _) (.cells #[.slice A0 f0.length c0, .slice A1 f1.length c1, .string s] 24))
  go_enter Tryz.func32, Tryz.ntmps32
  go_wp2_with fail
  generalize w.alloc (.cells #[.slice A0 f0.length c0, .slice A1 f1.length c1, .string s] 24) = w0 at B0 W0 ⊢
  have B1 := Aside0.mk B0.out.drew
  have W1 := Aside0.mk (below_drew W0.out)
  refine start_ (n := 11) (S := fun w' => w'.cell? ⟨w.heap.size, 0, none⟩ = some (.slice A0 f0.length c0) ∧ w'.cell? ⟨w.heap.size, 1, none⟩ = some (.slice A1 f1.length c1) ∧ w'.cell? ⟨w.heap.size, 2, none⟩ = some (.string s)) (ds := []) #[false, false, false, false, false, false, false, false, false, false, false] (by kernel_rfl) rfl rfl ⟨(B0.out.drew.cell 0), (B0.out.drew.cell 1), (B0.out.drew.cell 2)⟩ (fun hHeld => ?_)
  refine pure_ (i := 0) (N := some 3) (v := ?_) (a' := ?_) #[true, false, false, false, false, false, false, false, false, false, false] rfl rfl (by kernel_rfl) (fun _ _ _ h => h) (Or.inl ⟨by rfl, ?_⟩) ?_ ?_
  rotate_left
  · intro w'
    go_simp
    with_reducible rfl
  rotate_left
  · simp only [Act.put, List.setIfInBounds_toArray, List.set_cons_zero, List.set_cons_succ, i64_w, i32_w]
    rfl
  refine pure_ (i := 3) (N := some 6) (v := ?_) (a' := ?_) #[true, false, false, true, false, false, false, false, false, false, false] rfl rfl (by kernel_rfl) (fun _ _ _ h => h) (Or.inl ⟨by rfl, ?_⟩) ?_ ?_
  rotate_left
  · intro w'
    go_simp
    with_reducible rfl
  rotate_left
  · simp only [Act.put, List.setIfInBounds_toArray, List.set_cons_zero, List.set_cons_succ, i64_w, i32_w]
    rfl
  refine pure_ (i := 6) (N := some 9) (v := ?_) (a' := ?_) #[true, false, false, true, false, false, true, false, false, false, false] rfl rfl (by kernel_rfl) (fun _ _ _ h => h) (Or.inl ⟨by rfl, ?_⟩) ?_ ?_
  rotate_left
  · intro w'
    go_simp
    with_reducible rfl
  rotate_left
  · simp only [Act.put, List.setIfInBounds_toArray, List.set_cons_zero, List.set_cons_succ, i64_w, i32_w]
    rfl
  refine take_ (i := 1) (N := some 4) (v := ?_) (a' := ?_) #[true, true, false, true, false, false, true, false, false, false, false] rfl rfl (by kernel_rfl) (fun _ _ _ h => h) (Or.inl ⟨by rfl, ?_⟩) hHeld ?_ ?_
  rotate_left
  · rintro w' ⟨s0, s1, s2⟩
    go_simp
    with_reducible rfl
  rotate_left
  · simp only [Act.put, List.setIfInBounds_toArray, List.set_cons_zero, List.set_cons_succ, i64_w, i32_w]
    rfl
  refine take_ (i := 4) (N := some 7) (v := ?_) (a' := ?_) #[true, true, false, true, true, false, true, false, false, false, false] rfl rfl (by kernel_rfl) (fun _ _ _ h => h) (Or.inl ⟨by rfl, ?_⟩) hHeld ?_ ?_
  rotate_left
  · rintro w' ⟨s0, s1, s2⟩
    go_simp
    with_reducible rfl
  rotate_left
  · simp only [Act.put, List.setIfInBounds_toArray, List.set_cons_zero, List.set_cons_succ, i64_w, i32_w]
    rfl
  refine take_ (i := 7) (N := some 10) (v := ?_) (a' := ?_) #[true, true, false, true, true, false, true, true, false, false, false] rfl rfl (by kernel_rfl) (fun _ _ _ h => h) (Or.inl ⟨by rfl, ?_⟩) hHeld ?_ ?_
  rotate_left
  · rintro w' ⟨s0, s1, s2⟩
    go_simp
    with_reducible rfl
  rotate_left
  · simp only [Act.put, List.setIfInBounds_toArray, List.set_cons_zero, List.set_cons_succ, i64_w, i32_w]
    rfl
  refine one_ (i := 2) (N := some 5) #[true, true, true, true, true, false, true, true, false, false, false] rfl rfl (by kernel_rfl) (by decide) (fun K hK => ?_)
  refine goes_ Tryz.func19 (by kernel_rfl) rfl #[.slice A0 f0.length c0] (by rfl) rfl rfl (by simp only [List.map_toArray, List.map_cons, List.map_nil]; rfl) ?_
  with_reducible refine (rowOf_calls A0 c0 f0 _ (Kd.C_below h0 W1.out) l0 (by omega)).mono ?_
  rintro e w3 ⟨rfl, hb⟩
  refine ⟨_, rfl, ?_⟩
  have B2 := Aside0.mk (B1.out.below hb B1.out.lt)
  have W2 := Aside0.mk (below_then W1.out W1.out.size hb)
  clear hb
  refine hK.out _ _ ⟨(B2.out.cell 0), (B2.out.cell 1), (B2.out.cell 2)⟩ (fun hHeld => ?_)
  clear hK K
  refine norm_ (a' := ?_) ?_ ?_
  rotate_left
  · show Act.put _ (some 5) _ = _
    simp only [Act.put, List.setIfInBounds_toArray, List.set_cons_zero, List.set_cons_succ, i64_w, i32_w]
    rfl
  refine one_ (i := 5) (N := some 8) #[true, true, true, true, true, true, true, true, false, false, false] rfl rfl (by kernel_rfl) (by decide) (fun K hK => ?_)
  refine goes_ Tryz.func19 (by kernel_rfl) rfl #[.slice A1 f1.length c1] (by rfl) rfl rfl (by simp only [List.map_toArray, List.map_cons, List.map_nil]; rfl) ?_
  with_reducible refine (rowOf_calls A1 c1 f1 _ (Kd.C_below h1 W2.out) l1 (by omega)).mono ?_
  rintro e w4 ⟨rfl, hb⟩
  refine ⟨_, rfl, ?_⟩
  have B3 := Aside0.mk (B2.out.below hb B2.out.lt)
  have W3 := Aside0.mk (below_then W2.out W2.out.size hb)
  clear hb
  refine hK.out _ _ ⟨(B3.out.cell 0), (B3.out.cell 1), (B3.out.cell 2)⟩ (fun hHeld => ?_)
  clear hK K
  refine norm_ (a' := ?_) ?_ ?_
  rotate_left
  · show Act.put _ (some 8) _ = _
    simp only [Act.put, List.setIfInBounds_toArray, List.set_cons_zero, List.set_cons_succ, i64_w, i32_w]
    rfl
  refine one_ (i := 8) (N := some 11) #[true, true, true, true, true, true, true, true, true, false, false] rfl rfl (by kernel_rfl) (by decide) (fun K hK => ?_)
  refine value_ (w1 := ?_) (v := ?_) (by rfl) rfl ?_ ?_
  rotate_left 2
  · go_simp
    constructor
    · rfl
    · rfl
  have B4 := Aside0.mk (B3.out.alloc (.cells (List.map Value.string [hibi, ⟨(rowB f0).toArray⟩, ⟨(rowB f1).toArray⟩, s]).toArray 9))
  have W4 := Aside0.mk (W3.out.alloc (by have := W3.out.size; omega) (.cells (List.map Value.string [hibi, ⟨(rowB f0).toArray⟩, ⟨(rowB f1).toArray⟩, s]).toArray 9))
  refine hK.out _ _ ⟨(B4.out.cell 0), (B4.out.cell 1), (B4.out.cell 2)⟩ (fun hHeld => ?_)
  clear hK K
  refine norm_ (a' := ?_) ?_ ?_
  rotate_left
  · show Act.put _ (some 11) _ = _
    simp only [Act.put, List.setIfInBounds_toArray, List.set_cons_zero, List.set_cons_succ, i64_w, i32_w]
    rfl
  refine one_ (i := 9) (N := some 12) #[true, true, true, true, true, true, true, true, true, true, false] rfl rfl (by kernel_rfl) (by decide) (fun K hK => ?_)
  refine goes_ Tryz.func19 (by kernel_rfl) rfl #[.slice (some ⟨w4.heap.size, 0, none⟩) [hibi, ⟨(rowB f0).toArray⟩, ⟨(rowB f1).toArray⟩, s].length 4] (by rfl) rfl rfl (by simp only [List.map_toArray, List.map_cons, List.map_nil]; rfl) ?_
  refine (rowOf_calls (some ⟨w4.heap.size, 0, none⟩) 4 [hibi, ⟨(rowB f0).toArray⟩, ⟨(rowB f1).toArray⟩, s] _ (strings_new w4 [hibi, ⟨(rowB f0).toArray⟩, ⟨(rowB f1).toArray⟩, s] (by simp)) (by simp) hL2).mono ?_
  rintro e w5 ⟨rfl, hb⟩
  refine ⟨_, rfl, ?_⟩
  have B5 := Aside0.mk (B4.out.below hb B4.out.lt)
  have W5 := Aside0.mk (below_then W4.out W4.out.size hb)
  clear hb
  refine hK.out _ _ ⟨(B5.out.cell 0), (B5.out.cell 1), (B5.out.cell 2)⟩ (fun hHeld => ?_)
  clear hK K
  refine norm_ (a' := ?_) ?_ ?_
  rotate_left
  · show Act.put _ (some 12) _ = _
    simp only [Act.put, List.setIfInBounds_toArray, List.set_cons_zero, List.set_cons_succ, i64_w, i32_w]
    rfl
  refine pure_ (i := 10) (N := some 2) (v := ?_) (a' := ?_) #[true, true, true, true, true, true, true, true, true, true, true] rfl rfl (by kernel_rfl) (fun _ _ _ h => h) (Or.inl ⟨by rfl, ?_⟩) ?_ ?_
  rotate_left
  · intro w'
    go_simp
    with_reducible rfl
  rotate_left
  · simp only [Act.put, List.setIfInBounds_toArray, List.set_cons_zero, List.set_cons_succ, i64_w, i32_w]
    rfl
  refine done_ (by kernel_rfl) ?_

  clear hHeld
  go_wp2_with fail
  go_ret
  exact ⟨rfl, W5.out⟩

/-- The digest of an image. -/
def imgSum (f0 f1 : List ByteArray) (s : ByteArray) : List Int := sumL ⟨(imageL f0 f1 s).toArray⟩
theorem imgSum_len (f0 f1 : List ByteArray) (s : ByteArray) : (imgSum f0 f1 s).length = 32 := sumL_len _

set_option maxRecDepth 100000 in
set_option maxHeartbeats 8000000 in
theorem imageSum_calls (A0 : Option Addr) (c0 : Nat) (f0 : List ByteArray) (A1 : Option Addr) (c1 : Nat) (f1 : List ByteArray) (s : ByteArray) (w : World) (h0 : Kd.C Kd.string w A0 f0.length f0) (l0 : f0.length ≤ c0) (h1 : Kd.C Kd.string w A1 f1.length f1) (l1 : f1.length ≤ c1)
    (hL : (imageL f0 f1 s).length ≤ 140737488355328) :
    Calls Tryz.prog 15 #[.agg #[.slice A0 f0.length c0, .slice A1 f1.length c1, .string s]] w fun e w' => e = .returned (.agg (nums .u8 (imgSum f0 f1 s)).toArray) ∧ Below w.heap.size w w' := by
  have B0 := Blk.new w 24 #[.slice A0 f0.length c0, .slice A1 f1.length c1, .string s]
  have W0 := (Below.refl w.heap.size w).alloc (Nat.le_refl _) (.cells #[.slice A0 f0.length c0, .slice A1 f1.length c1, .string s] 24)
  have D0 := Blk.new (w.alloc (.cells #[.slice A0 f0.length c0, .slice A1 f1.length c1, .string s] 24)) 28 (nums .u8 (outL [] 0)).toArray
  have B0 := Aside0.mk (B0.alloc (.cells (nums .u8 (outL [] 0)).toArray 28))
  have W0 := Aside0.mk (W0.alloc (by rw [sz]; omega) (.cells (nums .u8 (outL [] 0)).toArray 28))
  rw [sz] at D0
  have D0 := Aside0.mk D0
  generalize hw0 : (w.alloc (.cells #[.slice A0 f0.length c0, .slice A1 f1.length c1, .string s] 24)).alloc (.cells (nums .u8 (outL [] 0)).toArray 28) = w0 at B0 W0 D0
  have HW0 := Aside0.mk hw0
  clear hw0
  go_enter Tryz.func15, Tryz.ntmps15
  go_wp2_with (rw [show ((w.alloc (.cells #[.slice A0 f0.length c0, .slice A1 f1.length c1, .string s] 24)).alloc (.cells #[.int .u8 0, .int .u8 0, .int .u8 0, .int .u8 0, .int .u8 0, .int .u8 0, .int .u8 0, .int .u8 0, .int .u8 0, .int .u8 0, .int .u8 0, .int .u8 0, .int .u8 0, .int .u8 0, .int .u8 0, .int .u8 0, .int .u8 0, .int .u8 0, .int .u8 0, .int .u8 0, .int .u8 0, .int .u8 0, .int .u8 0, .int .u8 0, .int .u8 0, .int .u8 0, .int .u8 0, .int .u8 0, .int .u8 0, .int .u8 0, .int .u8 0, .int .u8 0] 28)) = w0 from HW0.out]; (refine wpList_load_row rfl 24 (.tmp 1) rfl w.heap.size rfl 24 _ (0, 0) _ B0.out Tryz.underlying24 rfl (by kernel_rfl) ?_))
  go_wp2_with ((with_reducible refine (imageBytes_calls A0 c0 f0 A1 c1 f1 s w0 (Kd.C_below h0 W0.out) l0 (Kd.C_below h1 W0.out) l1 hL).mono ?_); rintro e w1 ⟨rfl, hb⟩; have W1 := Aside0.mk (below_then W0.out W0.out.size hb); have D1 := Aside0.mk (D0.out.below hb D0.out.lt); clear hb)
  have W2 := W1.out.alloc (by have := W1.out.size; omega) (.cells #[.string ⟨(imageL f0 f1 s).toArray⟩] 9)
  have D2 := D1.out.alloc (.cells #[.string ⟨(imageL f0 f1 s).toArray⟩] 9)
  have S2 := (Blk.new w1 9 #[.string ⟨(imageL f0 f1 s).toArray⟩])
  generalize w1.alloc (.cells #[.string ⟨(imageL f0 f1 s).toArray⟩] 9) = w2 at W2 D2 S2 ⊢
  generalize w1.heap.size = g at S2 ⊢
  have S2l := S2.lt
  have W2 := Aside0.mk W2
  have D2 := Aside0.mk D2
  have S2 : Aside0 (w2.cell? ⟨g, 0, none⟩ = some (.string ⟨(imageL f0 f1 s).toArray⟩)) := ⟨S2.cell 0⟩
  have hL3 : (ByteArray.mk (imageL f0 f1 s).toArray).size ≤ 140737488355328 := by show (imageL f0 f1 s).toArray.size ≤ _; rw [List.size_toArray]; exact hL
  go_wp2_with (first | ((with_reducible refine (sum_calls g 0 1 ⟨(imageL f0 f1 s).toArray⟩ w2 S2.out S2l hL3 (Nat.le_refl _)).mono ?_); rintro e w3 ⟨rfl, hb⟩; have W3 := Aside0.mk (below_then W2.out W2.out.size hb); have D3 := Aside0.mk (D2.out.below hb D2.out.lt); clear hb) | (refine wpList_store_row rfl 28 (.tmp 2) (.tmp 6) rfl (w.heap.size + 1) _ rfl rfl 28 _ D3.out (by rw [List.size_toArray, nums_length, sumL_len]; kernel_rfl) (by rw [List.size_toArray, nums_length, outL_len, List.size_toArray, nums_length, sumL_len]) (nums_all8 _) ?_))
  exact bodyPost_ret (results_cell_row (p := 2) (ty := 28) rfl _ _ (w.heap.size + 1) 28 _ (0, 0) _ rfl (D3.out.setRow_ _) Tryz.underlying28 rfl (by rw [List.size_toArray, nums_length, sumL_len]; kernel_rfl)) rfl ⟨rfl, below_setRow' W3.out (by omega) _⟩
end Go.Proofs.YtoljjgabgdifbaaGreatDoor.H

namespace Go.Proofs.YtoljjgabgdifbaaGreatDoor.H
open Go.RowKit Go.Proofs.YtoljjgabgdifbaaGreatDoorW.PrintWords Go.Proofs.YtoljjgabgdifbaaGreatDoorW.PrintLast Go.Proofs.YtoljjgabgdifbaaGreatDoorW.PrintMore
attribute [local go_sem] max2_int min2_int max_two min_two max_three min_three max_four min_four
set_option linter.unusedVariables false
set_option linter.unusedSimpArgs false

def errW : Option Int → Value
  | none => .nilIface
  | some c => .iface 0 (.int .i64 c)
theorem errW_none : errW none = .nilIface := rfl
theorem errW_some (c : Int) : errW (some c) = .iface 0 (.int .i64 c) := rfl

theorem info46 : (Tryz.prog.info? 46).map (fun i => (i.zero, i.size, i.bytes)) = some (some (.agg #[(.int .i64 0), (.string ⟨#[]⟩)]), 2, 24) := by kernel_rfl
-- the values' own types
/-! #### struct type 24 -/
structure S24 where
  f0 : (List ByteArray)
  f1 : (List ByteArray)
  f2 : ByteArray
def z24 : S24 := ⟨([] : List ByteArray), ([] : List ByteArray), (⟨#[]⟩ : ByteArray)⟩
def k24 : Kd S24 := Kd.iso (Kd.pair (Kd.slice 9 Kd.string) (Kd.pair (Kd.slice 9 Kd.string) Kd.string)) (fun x : S24 => (x.f0, x.f1, x.f2))
theorem k24_open {w : World} {x : S24} {cs : List Value} (h : k24.K w x cs) : ∃ A0 c0 A1 c1, cs = [.slice A0 x.f0.length c0, .slice A1 x.f1.length c1, .string x.f2] ∧ x.f0.length ≤ c0 ∧ Kd.string.C w A0 x.f0.length x.f0 ∧ x.f1.length ≤ c1 ∧ Kd.string.C w A1 x.f1.length x.f1 := by
  obtain ⟨_, _, rfl, ⟨A0, c0, rfl, l0, g0⟩, ⟨_, _, rfl, ⟨A1, c1, rfl, l1, g1⟩, rfl⟩⟩ := h
  exact ⟨A0, c0, A1, c1, rfl, l0, g0, l1, g1⟩
theorem k24_mk (w : World) (x : S24) {A0 : Option Addr} {c0 : Nat} (l0 : x.f0.length ≤ c0) (g0 : Kd.string.C w A0 x.f0.length x.f0) {A1 : Option Addr} {c1 : Nat} (l1 : x.f1.length ≤ c1) (g1 : Kd.string.C w A1 x.f1.length x.f1) : k24.K w x [.slice A0 x.f0.length c0, .slice A1 x.f1.length c1, .string x.f2] := ⟨[.slice A0 x.f0.length c0], [.slice A1 x.f1.length c1, .string x.f2], rfl, ⟨A0, c0, rfl, l0, g0⟩, ⟨[.slice A1 x.f1.length c1], [.string x.f2], rfl, ⟨A1, c1, rfl, l1, g1⟩, rfl⟩⟩
def rd_T24 (xs : List S24) (i : Int) : S24 := xs.getD i.toNat z24
theorem at_T24 {w : World} {A : Option Addr} {n : Nat} {xs : List S24} (h : Kd.C k24 w A n xs) (i : Int) (h0 : 0 ≤ i) (h1 : i < n) : ∃ ad A0 c0 A1 c1, A = some ad ∧ w.cell? (ad.add (i.toNat * 3)) = some (.slice A0 (rd_T24 xs i).f0.length c0) ∧ w.cell? ⟨(ad.add (i.toNat * 3)).block, (ad.add (i.toNat * 3)).off + 1, none⟩ = some (.slice A1 (rd_T24 xs i).f1.length c1) ∧ w.cell? ⟨(ad.add (i.toNat * 3)).block, (ad.add (i.toNat * 3)).off + 2, none⟩ = some (.string (rd_T24 xs i).f2) ∧ (rd_T24 xs i).f0.length ≤ c0 ∧ Kd.string.C w A0 (rd_T24 xs i).f0.length (rd_T24 xs i).f0 ∧ (rd_T24 xs i).f1.length ≤ c1 ∧ Kd.string.C w A1 (rd_T24 xs i).f1.length (rd_T24 xs i).f1 := by
  obtain ⟨ad, c, e, _, hK, hc0⟩ := Kd.C_get h z24 i h0 h1
  have hc : ∀ j u, c[j]? = some u → w.cell? (ad.add (i.toNat * 3 + j)) = some u := hc0
  obtain ⟨A0, c0, A1, c1, rfl, l0, g0, l1, g1⟩ := k24_open hK
  exact ⟨ad, A0, c0, A1, c1, e, hc 0 _ rfl, by rw [← add_field _ _ 1 (by omega)]; exact hc 1 _ rfl, by rw [← add_field _ _ 2 (by omega)]; exact hc 2 _ rfl, l0, g0, l1, g1⟩

/-! #### struct type 36 -/
structure S46 where
  f0 : Int
  f1 : ByteArray
def z46 : S46 := ⟨(0 : Int), (⟨#[]⟩ : ByteArray)⟩
def k46 : Kd S46 := Kd.iso (Kd.pair (Kd.int .i64) Kd.string) (fun x : S46 => (x.f0, x.f1))
theorem k46_open {w : World} {x : S46} {cs : List Value} (h : k46.K w x cs) : cs = [.int .i64 x.f0, .string x.f1] := by
  obtain ⟨_, _, rfl, rfl, rfl⟩ := h
  exact rfl
theorem k46_mkM (w : World) (base : Nat) (ok : Nat → Prop) (x : S46)  : k46.M w base ok x [.int .i64 x.f0, .string x.f1] := ⟨[.int .i64 x.f0], [.string x.f1], rfl, rfl, rfl⟩
def rd_T46 (xs : List S46) (i : Int) : S46 := xs.getD i.toNat z46
theorem at_T46 {w : World} {A : Option Addr} {n : Nat} {xs : List S46} (h : Kd.C k46 w A n xs) (i : Int) (h0 : 0 ≤ i) (h1 : i < n) : ∃ ad , A = some ad ∧ w.cell? (ad.add (i.toNat * 2)) = some (.int .i64 (rd_T46 xs i).f0) ∧ w.cell? ⟨(ad.add (i.toNat * 2)).block, (ad.add (i.toNat * 2)).off + 1, none⟩ = some (.string (rd_T46 xs i).f1) := by
  obtain ⟨ad, c, e, _, hK, hc0⟩ := Kd.C_get h z46 i h0 h1
  have hc : ∀ j u, c[j]? = some u → w.cell? (ad.add (i.toNat * 2 + j)) = some u := hc0
  obtain rfl := k46_open hK
  exact ⟨ad, e, hc 0 _ rfl, by rw [← add_field _ _ 1 (by omega)]; exact hc 1 _ rfl⟩

/-! ### hibernaclelaw35_size: function 21 -/
def hibernaclelaw35_size.l0 : Nat → Int → List ByteArray → Int → Int → Option (Int)
  | 0, _, _, _, _ => none
  | k + 1, x3, x6, x7, x8 => if x8 < x7 then (if 0 ≤ x8 then (if x8 < (x6.length : Int) then (hibernaclelaw35_size.l0 k (wrap64 (x3 + (wrap64 (4 + ((rdOf ByteArray.empty x6 x8).size : Int))))) x6 x7 (wrap64 (x8 + 1))) else (none)) else (none)) else (some x3)
def hibernaclelaw35_size.f (k : Nat) (l0 : List ByteArray) : Option (Int) := hibernaclelaw35_size.l0 k 0 l0 (l0.length : Int) 0
set_option maxHeartbeats 8000000 in
set_option maxRecDepth 100000 in
theorem hibernaclelaw35_size.calls (k : Nat) (A0 : Option Addr) (c0 : Nat) (l0 : List ByteArray) (r : Int) (w : World) (hr0 : Kd.C Kd.string w A0 l0.length l0) (hc0 : l0.length ≤ c0) (h : hibernaclelaw35_size.f k l0 = some r) :
    Calls Tryz.prog 12 #[.slice A0 l0.length c0] w fun e w' => e = .returned (.int .i64 r) ∧ Drawn0 w w' := by
  have HR0 := Aside0.mk hr0
  have HC0 := Aside0.mk hc0
  clear hr0 hc0
  have H : (hibernaclelaw35_size.l0 k 0 l0 (l0.length : Int) 0) = some r := h
  clear h
  have H' := Aside0.mk H
  clear H
  go_enter Tryz.func12, Tryz.ntmps12
  go_wp2
  go_loopg [3, 8] k (fun kq v3 v8 w' => ∃ (x3_1 : Int) (x8_1 : Int), v3 = .int .i64 x3_1 ∧ v8 = .int .i64 x8_1 ∧ Aside0 (hibernaclelaw35_size.l0 kq x3_1 l0 (l0.length : Int) x8_1 = some r) ∧ Aside0 (kq ≤ k) ∧ Drawn0 w w')
  case atStart => exact ⟨(0), (0), (by first | rfl | (simp; done) | (simp [*]; done)), (by first | rfl | (simp; done) | (simp [*]; done)), H', ⟨Nat.le_refl _⟩, by repeat (first | exact Drawn0.refl _ | apply Drawn0.step)⟩
  case round =>
    clear H'
    obtain ⟨x3_1, x8_1, rfl, rfl, HA, HK1, ⟨m1, rfl⟩⟩ := hrel
    cases gk with
    | zero => exact absurd HA.out (by simp [hibernaclelaw35_size.l0])
    | succ k1 =>
      have H := HA.out
      clear HA
      simp only [hibernaclelaw35_size.l0] at H
      by_cases c2 : x8_1 < (l0.length : Int)
      · rw [if_pos c2] at H
        have c2b0 : decide (x8_1 < (l0.length : Int)) = true := decide_eq_true c2
        clear c2
        by_cases c3 : 0 ≤ x8_1
        · rw [if_pos c3] at H
          have c3b0 : decide (0 ≤ x8_1) = true := decide_eq_true c3
          clear c3
          by_cases c4 : x8_1 < (l0.length : Int)
          · rw [if_pos c4] at H
            have c4b0 : decide (x8_1 < (l0.length : Int)) = true := decide_eq_true c4
            clear c4
            have H' := Aside0.mk H
            clear H
            have p101 : 0 ≤ (x8_1 : Int) := of_decide_eq_true (by first | (with_reducible assumption) | assumption)
            have q101 : x8_1 < (l0.length : Int) := of_decide_eq_true (by first | (with_reducible assumption) | assumption)
            obtain ⟨ad101, e101, hx101_0⟩ := Kd.at_string HR0.out x8_1 p101 q101
            cases e101
            replace p101 := eq_true p101
            replace q101 := eq_true q101
            go_wp2
            go_roundg k1
            case measure => have := HK1.out; omega
            case rel => exact ⟨(wrap64 (x3_1 + (wrap64 (4 + ((rdOf ByteArray.empty l0 x8_1).size : Int))))), (wrap64 (x8_1 + 1)), (by first | rfl | (simp; done) | (simp [*]; done)), (by first | rfl | (simp; done) | (simp [*]; done)), H', ⟨by have := HK1.out; omega⟩, by repeat (first | exact Drawn0.refl _ | apply Drawn0.step)⟩
          · rw [if_neg c4] at H
            exact absurd H (by simp)
        · rw [if_neg c3] at H
          exact absurd H (by simp)
      · rw [if_neg c2] at H
        have c2b0 : decide (x8_1 < (l0.length : Int)) = false := decide_eq_false c2
        clear c2
        obtain rfl := Option.some.inj H
        go_wp2
        go_ret
        exact ⟨by first | rfl | (simp; done) | (simp [*]; done), by repeat (first | exact Drawn0.refl _ | apply Drawn0.step)⟩

/-! ### hibernaclelaw35_great: function 8 -/
def hibernaclelaw35_great.l0 : Nat → Int → List (S24) → Int → Int → Option (Bool)
  | 0, _, _, _, _ => none
  | k + 1, x3, x6, x7, x8 => if x8 < x7 then (if 0 ≤ x8 then (if x8 < (x6.length : Int) then ((hibernaclelaw35_size.f k ((rd_T24 x6 x8).f0)).bind fun t104 => ((hibernaclelaw35_size.f k ((rd_T24 x6 x8).f1)).bind fun t105 => (hibernaclelaw35_great.l0 k (wrap64 (x3 + (wrap64 ((wrap64 (t104 + t105)) + (((rd_T24 x6 x8).f2).size : Int))))) x6 x7 (wrap64 (x8 + 1))))) else (none)) else (none)) else (some (decide (x3 > 4000)))
def hibernaclelaw35_great.f (k : Nat) (l0 : List (S24)) : Option (Bool) := hibernaclelaw35_great.l0 k 0 l0 (l0.length : Int) 0
set_option maxHeartbeats 8000000 in
set_option maxRecDepth 100000 in
theorem hibernaclelaw35_great.calls (k : Nat) (A0 : Option Addr) (c0 : Nat) (l0 : List (S24)) (r : Bool) (w : World) (hr0 : Kd.C k24 w A0 l0.length l0) (hc0 : l0.length ≤ c0) (h : hibernaclelaw35_great.f k l0 = some r) :
    Calls Tryz.prog 4 #[.slice A0 l0.length c0] w fun e w' => e = .returned (.bool r) ∧ Below w.heap.size w w' := by
  have hu24 := Tryz.underlying24
  have HR0 := Aside0.mk hr0
  have HC0 := Aside0.mk hc0
  clear hr0 hc0
  have HB := Aside0.mk (Below.refl w.heap.size w)
  have H : (hibernaclelaw35_great.l0 k 0 l0 (l0.length : Int) 0) = some r := h
  clear h
  have H' := Aside0.mk H
  clear H
  go_enter Tryz.func4, Tryz.ntmps4
  go_wp2
  repeat (go_quiet (fail); try go_wp2)
  go_loopg [3, 8] k (fun kq v3 v8 w' => ∃ (x3_1 : Int) (x8_1 : Int), v3 = .int .i64 x3_1 ∧ v8 = .int .i64 x8_1 ∧ Aside0 (hibernaclelaw35_great.l0 kq x3_1 l0 (l0.length : Int) x8_1 = some r) ∧ Aside0 (kq ≤ k) ∧ Aside0 (Below w.heap.size w w'))
  case atStart => exact ⟨(0), (0), (by first | rfl | (simp; done) | (simp [*]; done)), (by first | rfl | (simp; done) | (simp [*]; done)), H', ⟨Nat.le_refl _⟩, ⟨by repeat (first | (with_reducible first | exact HB.out | apply below_alloc | apply pw_below_drewN | apply below_drew1) | exact HB.out)⟩⟩
  case round =>
    clear H'
    obtain ⟨x3_1, x8_1, rfl, rfl, HA, HK1, HB⟩ := hrel
    cases gk with
    | zero => exact absurd HA.out (by simp [hibernaclelaw35_great.l0])
    | succ k1 =>
      have H := HA.out
      clear HA
      simp only [hibernaclelaw35_great.l0] at H
      by_cases c2 : x8_1 < (l0.length : Int)
      · rw [if_pos c2] at H
        have c2b0 : decide (x8_1 < (l0.length : Int)) = true := decide_eq_true c2
        clear c2
        by_cases c3 : 0 ≤ x8_1
        · rw [if_pos c3] at H
          have c3b0 : decide (0 ≤ x8_1) = true := decide_eq_true c3
          clear c3
          by_cases c4 : x8_1 < (l0.length : Int)
          · rw [if_pos c4] at H
            have c4b0 : decide (x8_1 < (l0.length : Int)) = true := decide_eq_true c4
            clear c4
            replace H := Option.bind_eq_some_iff.mp H
            obtain ⟨t104, A50, H⟩ := H
            replace H : ((hibernaclelaw35_size.f k1 ((rd_T24 l0 x8_1).f1)).bind fun t105 => (hibernaclelaw35_great.l0 k1 (wrap64 (x3_1 + (wrap64 ((wrap64 (t104 + t105)) + (((rd_T24 l0 x8_1).f2).size : Int))))) l0 (l0.length : Int) (wrap64 (x8_1 + 1)))) = some r := H
            have A5 := Aside0.mk A50
            clear A50
            replace H := Option.bind_eq_some_iff.mp H
            obtain ⟨t105, A60, H⟩ := H
            replace H : (hibernaclelaw35_great.l0 k1 (wrap64 (x3_1 + (wrap64 ((wrap64 (t104 + t105)) + (((rd_T24 l0 x8_1).f2).size : Int))))) l0 (l0.length : Int) (wrap64 (x8_1 + 1))) = some r := H
            have A6 := Aside0.mk A60
            clear A60
            have H' := Aside0.mk H
            clear H
            have p102 : 0 ≤ (x8_1 : Int) := of_decide_eq_true (by first | (with_reducible assumption) | assumption)
            have q102 : x8_1 < (l0.length : Int) := of_decide_eq_true (by first | (with_reducible assumption) | assumption)
            obtain ⟨ad102, A102_0, c102_0, A102_1, c102_1, e102, hx102_0, hx102_1, hx102_2, hl102_0, hi102_0, hl102_1, hi102_1⟩ := at_T24 HR0.out x8_1 p102 q102
            cases e102
            replace hx102_0 := (HB.out.cell (World.block_lt_of_cell? w _ hx102_0)).trans hx102_0
            replace hx102_1 := (HB.out.cell (World.block_lt_of_cell? w _ hx102_1)).trans hx102_1
            replace hx102_2 := (HB.out.cell (World.block_lt_of_cell? w _ hx102_2)).trans hx102_2
            have HR102_0 := Aside0.mk hi102_0
            have HC102_0 := Aside0.mk hl102_0
            clear hi102_0 hl102_0
            have HR102_1 := Aside0.mk hi102_1
            have HC102_1 := Aside0.mk hl102_1
            clear hi102_1 hl102_1
            replace p102 := eq_true p102
            replace q102 := eq_true q102
            go_wp2_with (first | ((with_reducible refine gate_dst (N := 5) rfl ?_); refine box_event ?hg (N := 5) ?hd (cs := #[.slice none 0 0, .slice none 0 0, .string (⟨#[]⟩ : ByteArray)]) (t := 24) ?hr ?_; (case hd => rfl); (case hg => rfl); (case hr => first | (go_simp; done) | (go_simp; rfl)); intro gb103 hg w7 hbox hb; have n0_ := Aside0.mk (below_step (by repeat (first | (with_reducible first | exact HB.out | apply below_alloc | apply pw_below_drewN | apply below_drew1) | exact HB.out)) hb); have n1_ := Aside0.mk (hbox); have n2_ := Aside0.mk ((by rw [hg]; exact (below_size (by repeat (first | (with_reducible first | exact HB.out | apply below_alloc | apply pw_below_drewN | apply below_drew1) | exact HB.out))) : w.heap.size ≤ gb103)); have n3_ := Aside0.mk ((by rw [hg]; exact (below_size (by repeat (first | (with_reducible first | exact HB.out | apply below_alloc | apply pw_below_drewN | apply below_drew1) | exact HB.out))) : w.heap.size ≤ gb103)); clear HB; have HB := n0_; have BK103 := n1_; have GW103 := n2_; have GE103 := n3_; clear n0_ n1_ n2_ n3_; clear hb hbox hg; have hcz8_0 : w7.cell? ⟨gb103, 0, none⟩ = some (.slice none 0 0) := (blk_cell BK103.out 0).trans rfl; have hcz8_1 : w7.cell? ⟨gb103, 1, none⟩ = some (.slice none 0 0) := (blk_cell BK103.out 1).trans rfl; have hcz8_2 : w7.cell? ⟨gb103, 2, none⟩ = some (.string (⟨#[]⟩ : ByteArray)) := (blk_cell BK103.out 2).trans rfl; have hfz8_0 := blk_frozen BK103.out 0; have hfz8_1 := blk_frozen BK103.out 1; have hfz8_2 := blk_frozen BK103.out 2) | (go_at_call 12; (with_reducible refine (hibernaclelaw35_size.calls k1 _ _ ((rd_T24 l0 x8_1).f0) t104 _ ?side1 ?side2 A5.out).mono ?_); (case side1 => exact Kd.C_below HR102_0.out (by repeat (first | (with_reducible first | exact HB.out | apply below_alloc | apply pw_below_drewN | apply below_drew1 | refine below_set ?_ GE103.out) | exact HB.out))); (case side2 => exact HC102_0.out); rintro e w' ⟨rfl, ⟨nd, rfl⟩⟩; (try first | exact ⟨rfl, _, World.drewN_drewN _ _ _⟩ | exact ⟨rfl, _, Eq.trans (World.drewN_drewN _ _ _) (congrArg (World.drewN _) (Nat.add_assoc _ _ _))⟩)) | (go_at_call 12; (with_reducible refine (hibernaclelaw35_size.calls k1 _ _ ((rd_T24 l0 x8_1).f1) t105 _ ?side1 ?side2 A6.out).mono ?_); (case side1 => exact Kd.C_below HR102_1.out (by repeat (first | (with_reducible first | exact HB.out | apply below_alloc | apply pw_below_drewN | apply below_drew1 | refine below_set ?_ GE103.out) | exact HB.out))); (case side2 => exact HC102_1.out); rintro e w' ⟨rfl, ⟨nd, rfl⟩⟩; (try first | exact ⟨rfl, _, World.drewN_drewN _ _ _⟩ | exact ⟨rfl, _, Eq.trans (World.drewN_drewN _ _ _) (congrArg (World.drewN _) (Nat.add_assoc _ _ _))⟩)))
            repeat (go_quiet (first | ((with_reducible refine gate_dst (N := 5) rfl ?_); refine box_event ?hg (N := 5) ?hd (cs := #[.slice none 0 0, .slice none 0 0, .string (⟨#[]⟩ : ByteArray)]) (t := 24) ?hr ?_; (case hd => rfl); (case hg => rfl); (case hr => first | (go_simp; done) | (go_simp; rfl)); intro gb103 hg w7 hbox hb; have n0_ := Aside0.mk (below_step (by repeat (first | (with_reducible first | exact HB.out | apply below_alloc | apply pw_below_drewN | apply below_drew1) | exact HB.out)) hb); have n1_ := Aside0.mk (hbox); have n2_ := Aside0.mk ((by rw [hg]; exact (below_size (by repeat (first | (with_reducible first | exact HB.out | apply below_alloc | apply pw_below_drewN | apply below_drew1) | exact HB.out))) : w.heap.size ≤ gb103)); have n3_ := Aside0.mk ((by rw [hg]; exact (below_size (by repeat (first | (with_reducible first | exact HB.out | apply below_alloc | apply pw_below_drewN | apply below_drew1) | exact HB.out))) : w.heap.size ≤ gb103)); clear HB; have HB := n0_; have BK103 := n1_; have GW103 := n2_; have GE103 := n3_; clear n0_ n1_ n2_ n3_; clear hb hbox hg; have hcz8_0 : w7.cell? ⟨gb103, 0, none⟩ = some (.slice none 0 0) := (blk_cell BK103.out 0).trans rfl; have hcz8_1 : w7.cell? ⟨gb103, 1, none⟩ = some (.slice none 0 0) := (blk_cell BK103.out 1).trans rfl; have hcz8_2 : w7.cell? ⟨gb103, 2, none⟩ = some (.string (⟨#[]⟩ : ByteArray)) := (blk_cell BK103.out 2).trans rfl; have hfz8_0 := blk_frozen BK103.out 0; have hfz8_1 := blk_frozen BK103.out 1; have hfz8_2 := blk_frozen BK103.out 2) | (go_at_call 12; (with_reducible refine (hibernaclelaw35_size.calls k1 _ _ ((rd_T24 l0 x8_1).f0) t104 _ ?side1 ?side2 A5.out).mono ?_); (case side1 => exact Kd.C_below HR102_0.out (by repeat (first | (with_reducible first | exact HB.out | apply below_alloc | apply pw_below_drewN | apply below_drew1 | refine below_set ?_ GE103.out) | exact HB.out))); (case side2 => exact HC102_0.out); rintro e w' ⟨rfl, ⟨nd, rfl⟩⟩; (try first | exact ⟨rfl, _, World.drewN_drewN _ _ _⟩ | exact ⟨rfl, _, Eq.trans (World.drewN_drewN _ _ _) (congrArg (World.drewN _) (Nat.add_assoc _ _ _))⟩)) | (go_at_call 12; (with_reducible refine (hibernaclelaw35_size.calls k1 _ _ ((rd_T24 l0 x8_1).f1) t105 _ ?side1 ?side2 A6.out).mono ?_); (case side1 => exact Kd.C_below HR102_1.out (by repeat (first | (with_reducible first | exact HB.out | apply below_alloc | apply pw_below_drewN | apply below_drew1 | refine below_set ?_ GE103.out) | exact HB.out))); (case side2 => exact HC102_1.out); rintro e w' ⟨rfl, ⟨nd, rfl⟩⟩; (try first | exact ⟨rfl, _, World.drewN_drewN _ _ _⟩ | exact ⟨rfl, _, Eq.trans (World.drewN_drewN _ _ _) (congrArg (World.drewN _) (Nat.add_assoc _ _ _))⟩))); try go_wp2_with (first | ((with_reducible refine gate_dst (N := 5) rfl ?_); refine box_event ?hg (N := 5) ?hd (cs := #[.slice none 0 0, .slice none 0 0, .string (⟨#[]⟩ : ByteArray)]) (t := 24) ?hr ?_; (case hd => rfl); (case hg => rfl); (case hr => first | (go_simp; done) | (go_simp; rfl)); intro gb103 hg w7 hbox hb; have n0_ := Aside0.mk (below_step (by repeat (first | (with_reducible first | exact HB.out | apply below_alloc | apply pw_below_drewN | apply below_drew1) | exact HB.out)) hb); have n1_ := Aside0.mk (hbox); have n2_ := Aside0.mk ((by rw [hg]; exact (below_size (by repeat (first | (with_reducible first | exact HB.out | apply below_alloc | apply pw_below_drewN | apply below_drew1) | exact HB.out))) : w.heap.size ≤ gb103)); have n3_ := Aside0.mk ((by rw [hg]; exact (below_size (by repeat (first | (with_reducible first | exact HB.out | apply below_alloc | apply pw_below_drewN | apply below_drew1) | exact HB.out))) : w.heap.size ≤ gb103)); clear HB; have HB := n0_; have BK103 := n1_; have GW103 := n2_; have GE103 := n3_; clear n0_ n1_ n2_ n3_; clear hb hbox hg; have hcz8_0 : w7.cell? ⟨gb103, 0, none⟩ = some (.slice none 0 0) := (blk_cell BK103.out 0).trans rfl; have hcz8_1 : w7.cell? ⟨gb103, 1, none⟩ = some (.slice none 0 0) := (blk_cell BK103.out 1).trans rfl; have hcz8_2 : w7.cell? ⟨gb103, 2, none⟩ = some (.string (⟨#[]⟩ : ByteArray)) := (blk_cell BK103.out 2).trans rfl; have hfz8_0 := blk_frozen BK103.out 0; have hfz8_1 := blk_frozen BK103.out 1; have hfz8_2 := blk_frozen BK103.out 2) | (go_at_call 12; (with_reducible refine (hibernaclelaw35_size.calls k1 _ _ ((rd_T24 l0 x8_1).f0) t104 _ ?side1 ?side2 A5.out).mono ?_); (case side1 => exact Kd.C_below HR102_0.out (by repeat (first | (with_reducible first | exact HB.out | apply below_alloc | apply pw_below_drewN | apply below_drew1 | refine below_set ?_ GE103.out) | exact HB.out))); (case side2 => exact HC102_0.out); rintro e w' ⟨rfl, ⟨nd, rfl⟩⟩; (try first | exact ⟨rfl, _, World.drewN_drewN _ _ _⟩ | exact ⟨rfl, _, Eq.trans (World.drewN_drewN _ _ _) (congrArg (World.drewN _) (Nat.add_assoc _ _ _))⟩)) | (go_at_call 12; (with_reducible refine (hibernaclelaw35_size.calls k1 _ _ ((rd_T24 l0 x8_1).f1) t105 _ ?side1 ?side2 A6.out).mono ?_); (case side1 => exact Kd.C_below HR102_1.out (by repeat (first | (with_reducible first | exact HB.out | apply below_alloc | apply pw_below_drewN | apply below_drew1 | refine below_set ?_ GE103.out) | exact HB.out))); (case side2 => exact HC102_1.out); rintro e w' ⟨rfl, ⟨nd, rfl⟩⟩; (try first | exact ⟨rfl, _, World.drewN_drewN _ _ _⟩ | exact ⟨rfl, _, Eq.trans (World.drewN_drewN _ _ _) (congrArg (World.drewN _) (Nat.add_assoc _ _ _))⟩))))
            go_roundg k1
            case measure => have := HK1.out; omega
            case rel => exact ⟨(wrap64 (x3_1 + (wrap64 ((wrap64 (t104 + t105)) + (((rd_T24 l0 x8_1).f2).size : Int))))), (wrap64 (x8_1 + 1)), (by first | rfl | (simp; done) | (simp [*]; done)), (by first | rfl | (simp; done) | (simp [*]; done)), H', ⟨by have := HK1.out; omega⟩, ⟨by repeat (first | (with_reducible first | exact HB.out | apply below_alloc | apply pw_below_drewN | apply below_drew1 | refine below_set ?_ GE103.out) | exact HB.out)⟩⟩
          · rw [if_neg c4] at H
            exact absurd H (by simp)
        · rw [if_neg c3] at H
          exact absurd H (by simp)
      · rw [if_neg c2] at H
        have c2b0 : decide (x8_1 < (l0.length : Int)) = false := decide_eq_false c2
        clear c2
        obtain rfl := Option.some.inj H
        go_wp2
        repeat (go_quiet (fail); try go_wp2)
        go_ret
        exact ⟨by first | rfl | (simp [errW_none, errW_some] <;> rfl) | (simp [*, errW_none, errW_some] <;> rfl), by repeat (first | (with_reducible first | exact HB.out | apply below_alloc | apply pw_below_drewN | apply below_drew1) | exact HB.out)⟩

/-! ### delta_writes: function 24 -/
def delta_writes.l0 : Nat → List ByteArray → List (S46) → List ByteArray → Int → Int → Option ((List (S46)))
  | 0, _, _, _, _, _ => none
  | k + 1, x0, x5, x8, x9, x10 => if x10 < x9 then (if 0 ≤ x10 then (if x10 < (x8.length : Int) then (if x10 ≥ (x0.length : Int) then (if x5.length < 5864062014805 then (delta_writes.l0 k x0 (x5 ++ [(⟨x10, rdOf ByteArray.empty x8 x10⟩ : S46)]) x8 x9 (wrap64 (x10 + 1))) else (none)) else (if x10 < (x0.length : Int) then (if (rdOf ByteArray.empty x0 x10).toList = (rdOf ByteArray.empty x8 x10).toList then (delta_writes.l0 k x0 x5 x8 x9 (wrap64 (x10 + 1))) else (if x5.length < 5864062014805 then (delta_writes.l0 k x0 (x5 ++ [(⟨x10, rdOf ByteArray.empty x8 x10⟩ : S46)]) x8 x9 (wrap64 (x10 + 1))) else (none))) else (none))) else (none)) else (none)) else (some x5)
def delta_writes.f (k : Nat) (l0 : List ByteArray) (l1 : List ByteArray) : Option ((List (S46))) := delta_writes.l0 k l0 ([] : List (S46)) l1 (l1.length : Int) 0
set_option maxHeartbeats 8000000 in
set_option maxRecDepth 100000 in
theorem delta_writes.calls (k : Nat) (A0 : Option Addr) (c0 : Nat) (l0 : List ByteArray) (A1 : Option Addr) (c1 : Nat) (l1 : List ByteArray) (r : List (S46)) (w : World) (hr0 : Kd.C Kd.string w A0 l0.length l0) (hc0 : l0.length ≤ c0) (hr1 : Kd.C Kd.string w A1 l1.length l1) (hc1 : l1.length ≤ c1) (h : delta_writes.f k l0 l1 = some r) :
    Calls Tryz.prog 16 #[.slice A0 l0.length c0, .slice A1 l1.length c1] w fun e w' => ∃ v0_ : Value, e = .returned (v0_) ∧ Kd.R k46 46 w' w.heap.size (fun _ => True) v0_ r ∧ Below w.heap.size w w' := by
  have hu46 := Tryz.underlying46
  have HR0 := Aside0.mk hr0
  have HC0 := Aside0.mk hc0
  clear hr0 hc0
  have HR1 := Aside0.mk hr1
  have HC1 := Aside0.mk hc1
  clear hr1 hc1
  have HB := Aside0.mk (Below.refl w.heap.size w)
  have H : (delta_writes.l0 k l0 ([] : List (S46)) l1 (l1.length : Int) 0) = some r := h
  clear h
  have H' := Aside0.mk H
  clear H
  go_enter Tryz.func16, Tryz.ntmps16
  go_wp2
  go_loopg [5, 10] k (fun kq v5 v10 w' => ∃ (x5_1 : List (S46)) (x10_1 : Int), v10 = .int .i64 x10_1 ∧ Aside0 (delta_writes.l0 kq l0 x5_1 l1 (l1.length : Int) x10_1 = some r) ∧ Aside0 (kq ≤ k) ∧ Aside0 (Kd.R k46 46 w' w.heap.size (fun _ => True) v5 x5_1) ∧ Aside0 (Below w.heap.size w w'))
  case atStart => exact ⟨(([] : List (S46))), (0), (by first | rfl | (simp; done) | (simp [*]; done)), H', ⟨Nat.le_refl _⟩, ⟨by first | exact Kd.R_nil _ _ _ _ _ | exact Kd.N_nil _ _ _ _ _ | exact Kd.V_nil _ _ _ _ _ | exact Kd.Q_nil _ _ _ _ _ | exact Kd.S_nil _ _ _ _ _⟩, ⟨by repeat (first | (with_reducible first | exact HB.out | apply below_alloc | apply pw_below_drewN | apply below_drew1) | exact HB.out)⟩⟩
  case round =>
    clear H'
    try clear c1
    try clear c2
    try clear p2
    obtain ⟨x5_1, x10_1, rfl, HA, HK1, HO_5, HB⟩ := hrel
    cases gk with
    | zero => exact absurd HA.out (by simp [delta_writes.l0])
    | succ k1 =>
      have H := HA.out
      clear HA
      simp only [delta_writes.l0] at H
      by_cases c3 : x10_1 < (l1.length : Int)
      · rw [if_pos c3] at H
        have c3b0 : decide (x10_1 < (l1.length : Int)) = true := decide_eq_true c3
        clear c3
        by_cases c4 : 0 ≤ x10_1
        · rw [if_pos c4] at H
          have c4b0 : decide (0 ≤ x10_1) = true := decide_eq_true c4
          clear c4
          by_cases c5 : x10_1 < (l1.length : Int)
          · rw [if_pos c5] at H
            have c5b0 : decide (x10_1 < (l1.length : Int)) = true := decide_eq_true c5
            clear c5
            by_cases c6 : x10_1 ≥ (l0.length : Int)
            · rw [if_pos c6] at H
              have c6b0 : decide ((l0.length : Int) ≤ x10_1) = true := decide_eq_true c6
              clear c6
              by_cases c7 : x5_1.length < 5864062014805
              · rw [if_pos c7] at H
                have LMc7 := Aside0.mk c7
                clear c7
                obtain ⟨y118, hy118⟩ : ∃ y_ : List (S46), y_ = (x5_1 ++ [(⟨x10_1, rdOf ByteArray.empty l1 x10_1⟩ : S46)]) := ⟨_, rfl⟩
                replace H : (delta_writes.l0 k1 l0 y118 l1 (l1.length : Int) (wrap64 (x10_1 + 1))) = some r := by first | (rw [hy118]; with_reducible exact H) | (have H2_ := (Option.bind_some _ _).symm.trans H; rw [hy118]; with_reducible exact H2_) | (have H2_ := (Option.bind_some _ _).symm.trans H; with_reducible exact H2_) | with_reducible exact H | (rw [hy118]; exact H) | exact H
                have Ny118 := Aside0.mk hy118
                clear hy118
                have H' := Aside0.mk H
                clear H
                have p117 : 0 ≤ (x10_1 : Int) := of_decide_eq_true (by first | (with_reducible assumption) | assumption)
                have q117 : x10_1 < (l1.length : Int) := of_decide_eq_true (by first | (with_reducible assumption) | assumption)
                obtain ⟨ad117, e117, hx117_0⟩ := Kd.at_string HR1.out x10_1 p117 q117
                cases e117
                replace hx117_0 := (HB.out.cell (World.block_lt_of_cell? w _ hx117_0)).trans hx117_0
                replace p117 := eq_true p117
                replace q117 := eq_true q117
                go_wp2_with (first | ((with_reducible refine gate_builtin (b := .append) (xs := #[.tmp 27, .tmp 31]) rfl ?_); at_builtin; refine Kd.R_append k46 (w0 := w) w.heap.size rfl (.tmp 27) (.tmp 31) 29 46 (.agg #[(.int .i64 0), (.string ⟨#[]⟩)]) 24 rfl Tryz.underlying29 info46 rfl (by decide) (by omega) u5 x5_1 (⟨x10_1, rdOf ByteArray.empty l1 x10_1⟩ : S46) [.int .i64 x10_1, .string (rdOf ByteArray.empty l1 x10_1)] (fun _ => True) (fun _ => False) rfl rfl ?aP (fun _ hk => hk.elim) ?aF ?aO ?aB ?aS ?aL ?_; (case aP => exact k46_mkM _ _ _ (⟨x10_1, rdOf ByteArray.empty l1 x10_1⟩ : S46)); (case aB => exact (by repeat (first | (with_reducible first | exact HB.out | apply below_alloc | apply pw_below_drewN | apply below_drew1) | exact HB.out))); (case aF => exact (fun _ _ => trivial)); (case aO => exact (by (with_reducible repeat (first | apply Kd.R_alloc | apply Kd.R_drewN | apply Kd.R_drew)); exact HO_5.out)); (case aS => exact (below_size (by repeat (first | (with_reducible first | exact HB.out | apply below_alloc | apply pw_below_drewN | apply below_drew1) | exact HB.out)))); (case aL => have := LMc7.out; omega); intro v119 w8 ho hb hg hat; rw [← Ny118.out] at ho; have n0_ := Aside0.mk (hb); have n1_ := Aside0.mk (ho); clear HB; clear HO_5; have HB := n0_; have HO120 := n1_; clear n0_ n1_; clear ho hb hg hat))
                go_roundg k1
                case measure => have := HK1.out; omega
                case rel => exact ⟨(y118), (wrap64 (x10_1 + 1)), (by first | rfl | (simp; done) | (simp [*]; done)), H', ⟨by have := HK1.out; omega⟩, ⟨by (with_reducible repeat (first | apply Kd.R_alloc | apply Kd.R_drewN | apply Kd.R_drew)); exact HO120.out⟩, ⟨by repeat (first | (with_reducible first | exact HB.out | apply below_alloc | apply pw_below_drewN | apply below_drew1) | exact HB.out)⟩⟩
              · rw [if_neg c7] at H
                exact absurd H (by simp)
            · rw [if_neg c6] at H
              have c6b0 : decide ((l0.length : Int) ≤ x10_1) = false := decide_eq_false c6
              clear c6
              by_cases c9 : x10_1 < (l0.length : Int)
              · rw [if_pos c9] at H
                have c9b0 : decide (x10_1 < (l0.length : Int)) = true := decide_eq_true c9
                clear c9
                by_cases c10 : (rdOf ByteArray.empty l0 x10_1).toList = (rdOf ByteArray.empty l1 x10_1).toList
                · rw [if_pos c10] at H
                  have c10b0 : ((rdOf ByteArray.empty l0 x10_1).toList == (rdOf ByteArray.empty l1 x10_1).toList) = true := beq_iff_eq.mpr c10
                  have c10b1 : ((rdOf ByteArray.empty l0 x10_1).toList != (rdOf ByteArray.empty l1 x10_1).toList) = false := bne_eq_false_iff_eq.mpr c10
                  clear c10
                  have H' := Aside0.mk H
                  clear H
                  have p117 : 0 ≤ (x10_1 : Int) := of_decide_eq_true (by first | (with_reducible assumption) | assumption)
                  have q117 : x10_1 < (l1.length : Int) := of_decide_eq_true (by first | (with_reducible assumption) | assumption)
                  obtain ⟨ad117, e117, hx117_0⟩ := Kd.at_string HR1.out x10_1 p117 q117
                  cases e117
                  replace hx117_0 := (HB.out.cell (World.block_lt_of_cell? w _ hx117_0)).trans hx117_0
                  replace p117 := eq_true p117
                  replace q117 := eq_true q117
                  have p121 : 0 ≤ (x10_1 : Int) := of_decide_eq_true (by first | (with_reducible assumption) | assumption)
                  have q121 : x10_1 < (l0.length : Int) := of_decide_eq_true (by first | (with_reducible assumption) | assumption)
                  obtain ⟨ad121, e121, hx121_0⟩ := Kd.at_string HR0.out x10_1 p121 q121
                  cases e121
                  replace hx121_0 := (HB.out.cell (World.block_lt_of_cell? w _ hx121_0)).trans hx121_0
                  replace p121 := eq_true p121
                  replace q121 := eq_true q121
                  go_wp2
                  go_roundg k1
                  case measure => have := HK1.out; omega
                  case rel => exact ⟨(x5_1), (wrap64 (x10_1 + 1)), (by first | rfl | (simp; done) | (simp [*]; done)), H', ⟨by have := HK1.out; omega⟩, ⟨by (with_reducible repeat (first | apply Kd.R_alloc | apply Kd.R_drewN | apply Kd.R_drew)); exact HO_5.out⟩, ⟨by repeat (first | (with_reducible first | exact HB.out | apply below_alloc | apply pw_below_drewN | apply below_drew1) | exact HB.out)⟩⟩
                · rw [if_neg c10] at H
                  have c10b0 : ((rdOf ByteArray.empty l0 x10_1).toList == (rdOf ByteArray.empty l1 x10_1).toList) = false := beq_eq_false_iff_ne.mpr c10
                  have c10b1 : ((rdOf ByteArray.empty l0 x10_1).toList != (rdOf ByteArray.empty l1 x10_1).toList) = true := bne_iff_ne.mpr c10
                  by_cases c11 : x5_1.length < 5864062014805
                  · rw [if_pos c11] at H
                    have LMc11 := Aside0.mk c11
                    clear c11
                    obtain ⟨y122, hy122⟩ : ∃ y_ : List (S46), y_ = (x5_1 ++ [(⟨x10_1, rdOf ByteArray.empty l1 x10_1⟩ : S46)]) := ⟨_, rfl⟩
                    replace H : (delta_writes.l0 k1 l0 y122 l1 (l1.length : Int) (wrap64 (x10_1 + 1))) = some r := by first | (rw [hy122]; with_reducible exact H) | (have H2_ := (Option.bind_some _ _).symm.trans H; rw [hy122]; with_reducible exact H2_) | (have H2_ := (Option.bind_some _ _).symm.trans H; with_reducible exact H2_) | with_reducible exact H | (rw [hy122]; exact H) | exact H
                    have Ny122 := Aside0.mk hy122
                    clear hy122
                    have H' := Aside0.mk H
                    clear H
                    have p117 : 0 ≤ (x10_1 : Int) := of_decide_eq_true (by first | (with_reducible assumption) | assumption)
                    have q117 : x10_1 < (l1.length : Int) := of_decide_eq_true (by first | (with_reducible assumption) | assumption)
                    obtain ⟨ad117, e117, hx117_0⟩ := Kd.at_string HR1.out x10_1 p117 q117
                    cases e117
                    replace hx117_0 := (HB.out.cell (World.block_lt_of_cell? w _ hx117_0)).trans hx117_0
                    replace p117 := eq_true p117
                    replace q117 := eq_true q117
                    have p121 : 0 ≤ (x10_1 : Int) := of_decide_eq_true (by first | (with_reducible assumption) | assumption)
                    have q121 : x10_1 < (l0.length : Int) := of_decide_eq_true (by first | (with_reducible assumption) | assumption)
                    obtain ⟨ad121, e121, hx121_0⟩ := Kd.at_string HR0.out x10_1 p121 q121
                    cases e121
                    replace hx121_0 := (HB.out.cell (World.block_lt_of_cell? w _ hx121_0)).trans hx121_0
                    replace p121 := eq_true p121
                    replace q121 := eq_true q121
                    go_wp2_with (first | ((with_reducible refine gate_builtin (b := .append) (xs := #[.tmp 27, .tmp 31]) rfl ?_); at_builtin; refine Kd.R_append k46 (w0 := w) w.heap.size rfl (.tmp 27) (.tmp 31) 29 46 (.agg #[(.int .i64 0), (.string ⟨#[]⟩)]) 24 rfl Tryz.underlying29 info46 rfl (by decide) (by omega) u5 x5_1 (⟨x10_1, rdOf ByteArray.empty l1 x10_1⟩ : S46) [.int .i64 x10_1, .string (rdOf ByteArray.empty l1 x10_1)] (fun _ => True) (fun _ => False) rfl rfl ?aP (fun _ hk => hk.elim) ?aF ?aO ?aB ?aS ?aL ?_; (case aP => exact k46_mkM _ _ _ (⟨x10_1, rdOf ByteArray.empty l1 x10_1⟩ : S46)); (case aB => exact (by repeat (first | (with_reducible first | exact HB.out | apply below_alloc | apply pw_below_drewN | apply below_drew1) | exact HB.out))); (case aF => exact (fun _ _ => trivial)); (case aO => exact (by (with_reducible repeat (first | apply Kd.R_alloc | apply Kd.R_drewN | apply Kd.R_drew)); exact HO_5.out)); (case aS => exact (below_size (by repeat (first | (with_reducible first | exact HB.out | apply below_alloc | apply pw_below_drewN | apply below_drew1) | exact HB.out)))); (case aL => have := LMc11.out; omega); intro v123 w12 ho hb hg hat; rw [← Ny122.out] at ho; have n0_ := Aside0.mk (hb); have n1_ := Aside0.mk (ho); clear HB; clear HO_5; have HB := n0_; have HO124 := n1_; clear n0_ n1_; clear ho hb hg hat))
                    go_roundg k1
                    case measure => have := HK1.out; omega
                    case rel => exact ⟨(y122), (wrap64 (x10_1 + 1)), (by first | rfl | (simp; done) | (simp [*]; done)), H', ⟨by have := HK1.out; omega⟩, ⟨by (with_reducible repeat (first | apply Kd.R_alloc | apply Kd.R_drewN | apply Kd.R_drew)); exact HO124.out⟩, ⟨by repeat (first | (with_reducible first | exact HB.out | apply below_alloc | apply pw_below_drewN | apply below_drew1) | exact HB.out)⟩⟩
                  · rw [if_neg c11] at H
                    exact absurd H (by simp)
              · rw [if_neg c9] at H
                exact absurd H (by simp)
          · rw [if_neg c5] at H
            exact absurd H (by simp)
        · rw [if_neg c4] at H
          exact absurd H (by simp)
      · rw [if_neg c3] at H
        have c3b0 : decide (x10_1 < (l1.length : Int)) = false := decide_eq_false c3
        clear c3
        obtain rfl := Option.some.inj H
        go_wp2
        go_ret
        exact ⟨_, by first | rfl | (simp [errW_none, errW_some] <;> rfl) | (simp [*, errW_none, errW_some] <;> rfl), by (with_reducible repeat (first | apply Kd.R_alloc | apply Kd.R_drewN | apply Kd.R_drew)); exact HO_5.out, by repeat (first | (with_reducible first | exact HB.out | apply below_alloc | apply pw_below_drewN | apply below_drew1) | exact HB.out)⟩

end Go.Proofs.YtoljjgabgdifbaaGreatDoor.H

namespace Go.Proofs.YtoljjgabgdifbaaGreatDoor.H
open Go.RowKit Go.Proofs.YtoljjgabgdifbaaGreatDoorW.PrintWords Go.Proofs.YtoljjgabgdifbaaGreatDoorW.PrintLast Go.Proofs.YtoljjgabgdifbaaGreatDoorW.PrintMore
set_option linter.unusedVariables false
set_option linter.unusedSimpArgs false

def slices_Clone_string_string.f (l0 : List ByteArray) : Option (List ByteArray) := if l0.length ≤ 8796093022208 then some l0 else none
theorem slices_Clone_string_string.calls (A0 : Option Addr) (c0 : Nat) (l0 : List ByteArray) (r : List ByteArray) (w : World) (hr0 : Kd.C Kd.string w A0 l0.length l0) (hc0 : l0.length ≤ c0) (h : slices_Clone_string_string.f l0 = some r) :
    Calls Tryz.prog 41 #[.slice A0 l0.length c0] w fun e w' => ∃ v0_ : Value, e = .returned (v0_) ∧ Kd.R Kd.string 9 w' w.heap.size (fun _ => True) v0_ r ∧ Below w.heap.size w w' := by
  unfold slices_Clone_string_string.f at h
  split at h
  case isFalse => cases h
  case isTrue hl =>
  cases h
  by_cases h0 : l0 = []
  · subst h0
    cases A0 with
    | none =>
      refine (Tryz.slices_Clone_string_nil 0 c0 w).mono ?_
      rintro e w' ⟨rfl, rfl⟩
      exact ⟨_, rfl, Kd.R_nil _ _ _ _ _, Below.refl _ _⟩
    | some ad =>
      refine (Tryz.slices_Clone_string_zero ad c0 w).mono ?_
      rintro e w' ⟨v', rfl, ho, _, hb⟩
      exact ⟨v', rfl, Kd.R_of_own ho (fun _ _ => trivial), hb⟩
  · have hpos : 0 < l0.length := List.length_pos_iff.mpr h0
    obtain ⟨ad, rfl, hc⟩ : ∃ ad, A0 = some ad ∧ ∀ j, j < l0.length → w.cell? (ad.add j) = some (.string (l0.getD j ByteArray.empty)) := by
      obtain ⟨ad, e, _⟩ := Kd.at_string hr0 0 (by omega) (by omega)
      subst e
      refine ⟨ad, rfl, fun j hj => ?_⟩
      obtain ⟨ad', e', hx⟩ := Kd.at_string hr0 (j : Int) (by omega) (by omega)
      cases e'
      simpa [rdOf] using hx
    obtain ⟨b, off, sp⟩ := ad
    have hs : sp = none := by
      have z := hc 0 hpos
      have z2 := World.cell?_spot z
      simpa [Addr.add] using z2
    subst hs
    refine (Tryz.slices_Clone_string b off l0.length c0 l0 w (Nat.le_refl _) (by omega) (fun j hj => by rw [← Addr.add_mid]; exact hc j hj)).mono ?_
    rintro e w' ⟨v', rfl, ho, _, hb⟩
    rw [List.take_length] at ho
    exact ⟨v', rfl, Kd.R_of_own ho (fun _ _ => trivial), hb⟩
end Go.Proofs.YtoljjgabgdifbaaGreatDoor.H

namespace Go.Proofs.YtoljjgabgdifbaaGreatDoor.H
open Go.RowKit Go.Proofs.YtoljjgabgdifbaaGreatDoorW.PrintWords Go.Proofs.YtoljjgabgdifbaaGreatDoorW.PrintLast Go.Proofs.YtoljjgabgdifbaaGreatDoorW.PrintMore Go.Maps
set_option linter.unusedVariables false
set_option linter.unusedSimpArgs false

/-- Block b is a map of at most n entries that tells f. -/
def MapIs (w : World) (b n : Nat) (f : Int → Option ByteArray) : Prop :=
  ∃ D : DataW Unit, w.ownsMap Tryz.prog 3 (plainElem Tryz.prog 9) b n D ∧ ∀ x : Int, has D (.int .i64 x) = (f x).isSome ∧ ∀ s z, f x = some s → D.atKey (.int .i64 x) z = .lit (.string s.data.toList)
theorem MapIs.lt {w : World} {b n : Nat} {f : Int → Option ByteArray} (h : MapIs w b n f) : b < w.heap.size := by
  obtain ⟨D, h, _⟩ := h
  exact h.lt
theorem MapIs.kept {w w' : World} {b n : Nat} {f : Int → Option ByteArray} {row : Option Nat} (h : MapIs w b n f) (hg : w.grownBy w' row) (hne : some b ≠ row) : MapIs w' b n f := by
  obtain ⟨D, h, hf⟩ := h
  exact ⟨D, h.kept hg hne, hf⟩
theorem MapIs.alloc {w : World} {b n : Nat} {f : Int → Option ByteArray} (h : MapIs w b n f) (o : Obj) : MapIs (w.alloc o) b n f := by
  obtain ⟨D, h, hf⟩ := h
  exact ⟨D, h.alloc o, hf⟩
theorem MapIs.drewN {w : World} {b n : Nat} {f : Int → Option ByteArray} (h : MapIs w b n f) (m : Nat) : MapIs (w.drewN m) b n f := h
end Go.Proofs.YtoljjgabgdifbaaGreatDoor.H

namespace Go.Proofs.YtoljjgabgdifbaaGreatDoor.H
open Go.RowKit Go.Proofs.YtoljjgabgdifbaaGreatDoorW.PrintWords Go.Proofs.YtoljjgabgdifbaaGreatDoorW.PrintLast Go.Proofs.YtoljjgabgdifbaaGreatDoorW.PrintMore
set_option linter.unusedVariables false
set_option linter.unusedSimpArgs false

theorem list32 (L : List Int) (h : L.length = 32) : ∃ a0 a1 a2 a3 a4 a5 a6 a7 a8 a9 a10 a11 a12 a13 a14 a15 a16 a17 a18 a19 a20 a21 a22 a23 a24 a25 a26 a27 a28 a29 a30 a31 : Int, L = [a0, a1, a2, a3, a4, a5, a6, a7, a8, a9, a10, a11, a12, a13, a14, a15, a16, a17, a18, a19, a20, a21, a22, a23, a24, a25, a26, a27, a28, a29, a30, a31] := by
  rcases L with _ | ⟨a0, L⟩
  · simp at h
  rcases L with _ | ⟨a1, L⟩
  · simp at h
  rcases L with _ | ⟨a2, L⟩
  · simp at h
  rcases L with _ | ⟨a3, L⟩
  · simp at h
  rcases L with _ | ⟨a4, L⟩
  · simp at h
  rcases L with _ | ⟨a5, L⟩
  · simp at h
  rcases L with _ | ⟨a6, L⟩
  · simp at h
  rcases L with _ | ⟨a7, L⟩
  · simp at h
  rcases L with _ | ⟨a8, L⟩
  · simp at h
  rcases L with _ | ⟨a9, L⟩
  · simp at h
  rcases L with _ | ⟨a10, L⟩
  · simp at h
  rcases L with _ | ⟨a11, L⟩
  · simp at h
  rcases L with _ | ⟨a12, L⟩
  · simp at h
  rcases L with _ | ⟨a13, L⟩
  · simp at h
  rcases L with _ | ⟨a14, L⟩
  · simp at h
  rcases L with _ | ⟨a15, L⟩
  · simp at h
  rcases L with _ | ⟨a16, L⟩
  · simp at h
  rcases L with _ | ⟨a17, L⟩
  · simp at h
  rcases L with _ | ⟨a18, L⟩
  · simp at h
  rcases L with _ | ⟨a19, L⟩
  · simp at h
  rcases L with _ | ⟨a20, L⟩
  · simp at h
  rcases L with _ | ⟨a21, L⟩
  · simp at h
  rcases L with _ | ⟨a22, L⟩
  · simp at h
  rcases L with _ | ⟨a23, L⟩
  · simp at h
  rcases L with _ | ⟨a24, L⟩
  · simp at h
  rcases L with _ | ⟨a25, L⟩
  · simp at h
  rcases L with _ | ⟨a26, L⟩
  · simp at h
  rcases L with _ | ⟨a27, L⟩
  · simp at h
  rcases L with _ | ⟨a28, L⟩
  · simp at h
  rcases L with _ | ⟨a29, L⟩
  · simp at h
  rcases L with _ | ⟨a30, L⟩
  · simp at h
  rcases L with _ | ⟨a31, L⟩
  · simp at h
  rcases L with _ | ⟨x, L⟩
  · exact ⟨a0, a1, a2, a3, a4, a5, a6, a7, a8, a9, a10, a11, a12, a13, a14, a15, a16, a17, a18, a19, a20, a21, a22, a23, a24, a25, a26, a27, a28, a29, a30, a31, rfl⟩
  · simp only [List.length_cons] at h; omega

/-- A delta's cells. -/
def dArr (L : List Int) (v1 v2 : Value) (s : ByteArray) (M : List Int) : Array Value := (nums .u8 L ++ [v1, v2, .string s] ++ nums .u8 M).toArray
theorem dArr_size {L M : List Int} (hL : L.length = 32) (hM : M.length = 32) (v1 v2 : Value) (s : ByteArray) : (dArr L v1 v2 s M).size = 67 := by
  simp [dArr, nums, hL, hM]
set_option maxRecDepth 100000 in
theorem built_delta {L M : List Int} (hL : L.length = 32) (hM : M.length = 32) (A1 : Option Addr) (n1 c1 : Nat) (A2 : Option Addr) (n2 c2 : Nat) (s : ByteArray) :
    Tryz.prog.built 31 [(0, .agg (nums .u8 L).toArray), (1, .slice A1 n1 c1), (2, .slice A2 n2 c2), (3, .string s), (4, .agg (nums .u8 M).toArray)] = some (dArr L (.slice A1 n1 c1) (.slice A2 n2 c2) s M) := by
  obtain ⟨a0, a1, a2, a3, a4, a5, a6, a7, a8, a9, a10, a11, a12, a13, a14, a15, a16, a17, a18, a19, a20, a21, a22, a23, a24, a25, a26, a27, a28, a29, a30, a31, rfl⟩ := list32 L hL
  obtain ⟨b0, b1, b2, b3, b4, b5, b6, b7, b8, b9, b10, b11, b12, b13, b14, b15, b16, b17, b18, b19, b20, b21, b22, b23, b24, b25, b26, b27, b28, b29, b30, b31, rfl⟩ := list32 M hM
  kernel_rfl
end Go.Proofs.YtoljjgabgdifbaaGreatDoor.H

