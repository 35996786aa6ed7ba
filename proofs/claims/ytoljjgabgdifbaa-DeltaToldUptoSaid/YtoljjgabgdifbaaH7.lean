/- Layer 2 of the program: the digest of one text. -/
import Derived.Test.YtoljjgabgdifbaaH6
namespace Go.Proofs.Ytoljjgabgdifbaa.H
open Go.RowKit Go.Proofs.YtoljjgabgdifbaaW.PrintWords Go.Proofs.YtoljjgabgdifbaaW.PrintLast
set_option linter.unusedVariables false
set_option linter.unusedSimpArgs false

/-- The eight numbers at the beginning of a digest without a key. -/
def sumH : List Int := eightL.set 0 (Go.bits .xor .u32 1779033703 16842784)
/-- The digest of a text, byte by byte. -/
def sumL (s : ByteArray) : List Int := outL (digH sumH s 0) 32
theorem sumL_len (s : ByteArray) : (sumL s).length = 32 := outL_len _ _

set_option maxRecDepth 100000 in
set_option maxHeartbeats 20000000 in
theorem sum_calls (bk o c : Nat) (s : ByteArray) (w : World) (hcell : w.cell? ⟨bk, o, none⟩ = some (.string s)) (hbk : bk < w.heap.size) (hs : s.size ≤ 140737488355328) (hc : 1 ≤ c) :
    Calls Try.prog 36 #[.slice (some ⟨bk, o, none⟩) 1 c] w fun e w' => e = .returned (.agg (nums .u8 (sumL s)).toArray) ∧ Below w.heap.size w w' := by
  have HC := Aside0.mk hcell
  clear hcell
  have B1 := Blk.new w 29 (nums .u8 (outL [] 0)).toArray
  have W1 := (Below.refl w.heap.size w).alloc (Nat.le_refl _) (.cells (nums .u8 (outL [] 0)).toArray 29)
  generalize hw1 : (w.alloc (.cells (nums .u8 (outL [] 0)).toArray 29)) = w1 at B1 W1
  have HW1 := Aside0.mk hw1
  have B1 := Aside0.mk B1
  have W1 := Aside0.mk W1
  clear hw1
  go_enter Try.func36, Try.ntmps36
  go_wp2_with (rw [show (w.alloc (.cells #[.int .u8 0, .int .u8 0, .int .u8 0, .int .u8 0, .int .u8 0, .int .u8 0, .int .u8 0, .int .u8 0, .int .u8 0, .int .u8 0, .int .u8 0, .int .u8 0, .int .u8 0, .int .u8 0, .int .u8 0, .int .u8 0, .int .u8 0, .int .u8 0, .int .u8 0, .int .u8 0, .int .u8 0, .int .u8 0, .int .u8 0, .int .u8 0, .int .u8 0, .int .u8 0, .int .u8 0, .int .u8 0, .int .u8 0, .int .u8 0, .int .u8 0, .int .u8 0] 29)) = w1 from HW1.out]; (with_reducible refine (eight_calls' _).mono ?_); rintro e w' ⟨rfl, hb⟩; have BE := Aside0.mk hb; clear hb)
  have B2 := Blk.new w' 76 (nums .u32 sumH).toArray
  have G2 := (B1.out.below BE.out B1.out.lt).alloc (.cells (nums .u32 sumH).toArray 76)
  have W2 := (below_then W1.out (by have := W1.out.size; omega) BE.out).alloc (by have := W1.out.size; have := BE.out.size; omega) (.cells (nums .u32 sumH).toArray 76)
  rw [show w'.alloc (.cells #[.int .u32 (Go.bits .xor .u32 1779033703 16842784), .int .u32 3144134277, .int .u32 1013904242, .int .u32 2773480762, .int .u32 1359893119, .int .u32 2600822924, .int .u32 528734635, .int .u32 1541459225] 76) = w'.alloc (.cells (nums .u32 sumH).toArray 76) from rfl]
  generalize w'.alloc (.cells (nums .u32 sumH).toArray 76) = w2 at B2 G2 W2 ⊢
  generalize w'.heap.size = g at B2 ⊢
  have B2 := Aside0.mk B2
  have B1 := Aside0.mk G2
  have W2 := Aside0.mk W2
  clear HW1 W1 BE G2
  have HJ : Aside0 (Calls Try.prog 49 #[.slice (some ⟨bk, o, none⟩) 1 c, .string ⟨#[]⟩] w2.drew fun e w' => e = .returned (.string s) ∧ Below w2.drew.heap.size w2.drew w') := by
    have z := Try.strings_Join bk o c [s] ⟨#[]⟩ w2.drew (fun j x hx => ?_) (by have := W2.out.size; show bk < w2.heap.size; omega) (by simp) hc (by simpa [Lib.join] using hs)
    · exact ⟨by simpa [Lib.join] using z⟩
    · match j with
      | 0 =>
        obtain rfl : s = x := by simpa using hx
        exact (W2.out.cell (p := ⟨bk, o, none⟩) hbk).trans HC.out
      | j + 1 => simp at hx
  refine start_ (n := 5) (S := fun w' => Blk w' g 76 (nums .u32 sumH).toArray) (ds := [4]) #[false, false, false, false, false] (by kernel_rfl) rfl rfl (B2.out.drew) (fun hHeld => ?_)
  refine pure_ (i := 1) (N := some 10) (v := ?_) (a' := ?_) #[false, true, false, false, false] rfl rfl (by kernel_rfl) (fun _ _ _ h => h) (Or.inl ⟨by rfl, ?_⟩) ?_ ?_
  rotate_left
  · intro w'
    go_simp
    with_reducible rfl
  rotate_left
  · simp only [Act.put, List.setIfInBounds_toArray, List.set_cons_zero, List.set_cons_succ, i64_w, i32_w]
    rfl
  refine take_ (i := 0) (N := some 9) (v := ?_) (a' := ?_) #[true, true, false, false, false] rfl rfl (by kernel_rfl) (fun _ _ _ h => h) (Or.inl ⟨by rfl, ?_⟩) hHeld ?_ ?_
  rotate_left
  · intro w' s0
    refine row_loads 76 (.tmp 3) ?_ g ?_ s0 Try.underlying76 ?_ ?_
    · rfl
    · rfl
    · rfl
    · rfl
  rotate_left
  · simp only [Act.put, List.setIfInBounds_toArray, List.set_cons_zero, List.set_cons_succ, i64_w, i32_w]
    rfl
  refine one_ (i := 2) (N := some 11) #[true, true, true, false, false] rfl rfl (by kernel_rfl) (by decide) (fun K hK => ?_)
  refine goes_ Try.func49 (by kernel_rfl) rfl #[.slice (some ⟨bk, o, none⟩) 1 c, .string ⟨#[]⟩] (by rfl) rfl rfl (by simp only [List.map_toArray, List.map_cons, List.map_nil]; rfl) ?_
  with_reducible refine (HJ.out).mono ?_
  rintro e w3 ⟨rfl, hb⟩
  refine ⟨_, rfl, ?_⟩
  have B3 := Aside0.mk (B2.out.drew.below hb B2.out.lt)
  have W3 := Aside0.mk (below_then (below_drew W2.out) (by have := W2.out.size; show w.heap.size ≤ w2.heap.size; omega) hb)
  have G3 := Aside0.mk (B1.out.drew.below hb B1.out.lt)
  clear hb
  refine hK.out _ _ (B3.out) (fun hHeld => ?_)
  clear hK K
  refine norm_ (a' := ?_) ?_ ?_
  rotate_left
  · show Act.put _ (some 11) _ = _
    simp only [Act.put, List.setIfInBounds_toArray, List.set_cons_zero, List.set_cons_succ, i64_w, i32_w]
    rfl
  refine one_ (i := 3) (N := some 12) #[true, true, true, true, false] rfl rfl (by kernel_rfl) (by decide) (fun K hK => ?_)
  refine goes_ Try.func48 (by kernel_rfl) rfl #[.agg (nums .u32 sumH).toArray, .string s] (by rfl) rfl rfl (by simp only [List.map_toArray, List.map_cons, List.map_nil]; rfl) ?_
  with_reducible refine (digest_calls sumH s w3 rfl).mono ?_
  rintro e w4 ⟨rfl, hb⟩
  refine ⟨_, rfl, ?_⟩
  have B4 := Aside0.mk (B3.out.below hb B3.out.lt)
  have W4 := Aside0.mk (below_then W3.out (by have := W3.out.size; omega) hb)
  have G4 := Aside0.mk (G3.out.below hb G3.out.lt)
  clear hb
  refine hK.out _ _ (B4.out) (fun hHeld => ?_)
  clear hK K
  refine norm_ (a' := ?_) ?_ ?_
  rotate_left
  · show Act.put _ (some 12) _ = _
    simp only [Act.put, List.setIfInBounds_toArray, List.set_cons_zero, List.set_cons_succ, i64_w, i32_w]
    rfl
  refine last_ (i := 4) (N := none) #[true, true, true, true, true] rfl rfl (by kernel_rfl) (by decide) (fun K hK => ?_)
  refine skip_ (w1 := w4.setRow w.heap.size (nums .u8 (sumL s)).toArray) (by rfl) rfl ?_ ?_
  · exact row_stores 29 _ _ rfl w.heap.size _ rfl rfl G4.out (by unfold sumL; rw [List.size_toArray, nums_length, outL_len]; kernel_rfl) (by unfold sumL; rw [List.size_toArray, nums_length, outL_len, List.size_toArray, nums_length, outL_len]) (nums_all8 _)
  refine hK.out _ _ ?_
  clear hK K
  refine done_ (by kernel_rfl) ?_

  clear hHeld
  go_wp2_with fail
  exact bodyPost_ret (results_cell_row (p := 2) (ty := 29) rfl _ _ w.heap.size 29 _ (0, 0) _ rfl (G4.out.setRow_ _) Try.underlying29 rfl (by unfold sumL; rw [List.size_toArray, nums_length, outL_len]; kernel_rfl)) rfl ⟨rfl, below_setRow' W4.out (Nat.le_refl _) _⟩
end Go.Proofs.Ytoljjgabgdifbaa.H
