/- Digests of several texts: no two unlike ones have one. -/
import Derived.Test.YtoljjgabgdifbaaM3
namespace Go.Proofs.Ytoljjgabgdifbaa.H
open Go.RowKit Go.Proofs.YtoljjgabgdifbaaW.PrintWords Go.Proofs.YtoljjgabgdifbaaW.PrintLast Go.Proofs.YtoljjgabgdifbaaW.PrintMore
set_option linter.unusedVariables false
set_option linter.unusedSimpArgs false

/-- The digest of the image without anything. -/
def emptySum : List Int := imgSum [] [] ⟨#[]⟩
theorem emptySum_len : emptySum.length = 32 := imgSum_len _ _ _
set_option maxRecDepth 100000 in
set_option maxHeartbeats 4000000 in
theorem nothing_calls (w : World) : Calls Try.prog 30 #[] w fun e w' => e = .returned (.agg (nums .u8 emptySum).toArray) ∧ Below w.heap.size w w' := by
  have HC := Aside0.mk (show ∀ W, Calls Try.prog 23 #[.agg #[.slice none 0 0, .slice none 0 0, .string ⟨#[]⟩]] W fun e w' => e = .returned (.agg (nums .u8 emptySum).toArray) ∧ Below W.heap.size W w' from fun W => imageSum_calls none 0 [] none 0 [] ⟨#[]⟩ W (Kd.C_nil _ _) (Nat.le_refl _) (Kd.C_nil _ _) (Nat.le_refl _) (by decide +kernel))
  have D0 := Aside0.mk (Blk.new w 29 (nums .u8 (outL [] 0)).toArray)
  have W0 := Aside0.mk ((Below.refl w.heap.size w).alloc (Nat.le_refl _) (.cells (nums .u8 (outL [] 0)).toArray 29))
  generalize hw0 : w.alloc (.cells (nums .u8 (outL [] 0)).toArray 29) = w0 at D0 W0
  have HW0 := Aside0.mk hw0
  clear hw0
  go_enter Try.func30, Try.ntmps30
  go_wp2_with (first | (rw [show (w.alloc (.cells #[.int .u8 0, .int .u8 0, .int .u8 0, .int .u8 0, .int .u8 0, .int .u8 0, .int .u8 0, .int .u8 0, .int .u8 0, .int .u8 0, .int .u8 0, .int .u8 0, .int .u8 0, .int .u8 0, .int .u8 0, .int .u8 0, .int .u8 0, .int .u8 0, .int .u8 0, .int .u8 0, .int .u8 0, .int .u8 0, .int .u8 0, .int .u8 0, .int .u8 0, .int .u8 0, .int .u8 0, .int .u8 0, .int .u8 0, .int .u8 0, .int .u8 0, .int .u8 0] 29)) = w0 from HW0.out]) | ((with_reducible refine (HC.out _).mono ?_); rintro e w3 ⟨rfl, hb⟩; have W3 := Aside0.mk (below_then W0.out W0.out.size hb); have D3 := Aside0.mk (D0.out.below hb D0.out.lt); clear hb) | (refine wpList_store_row rfl 29 (.tmp 0) (.tmp 2) rfl w.heap.size _ rfl rfl 29 _ D3.out (by rw [List.size_toArray, nums_length, emptySum_len]; kernel_rfl) (by rw [List.size_toArray, nums_length, outL_len, List.size_toArray, nums_length, emptySum_len]) (nums_all8 _) ?_))
  exact bodyPost_ret (results_cell_row (p := 0) (ty := 29) rfl _ _ w.heap.size 29 _ (0, 0) _ rfl (D3.out.setRow_ _) Try.underlying29 rfl (by rw [List.size_toArray, nums_length, emptySum_len]; kernel_rfl)) rfl ⟨rfl, below_setRow' W3.out (Nat.le_refl _) _⟩
set_option maxRecDepth 100000 in
set_option maxHeartbeats 4000000 in
theorem rempty_calls (w : World) : Calls Try.prog 16 #[] w fun e w' => e = .returned (.agg (nums .u8 emptySum).toArray) ∧ Below w.heap.size w w' := by
  have HC := Aside0.mk (show ∀ W, Calls Try.prog 25 #[.agg #[.slice none 0 0, .slice none 0 0, .string ⟨#[]⟩]] W fun e w' => e = .returned (.agg (nums .u8 emptySum).toArray) ∧ Below W.heap.size W w' from fun W => rimageSum_calls none 0 [] none 0 [] ⟨#[]⟩ W (Kd.C_nil _ _) (Nat.le_refl _) (Kd.C_nil _ _) (Nat.le_refl _) ⟨by decide, by decide⟩ (by decide +kernel))
  have D0 := Aside0.mk (Blk.new w 29 (nums .u8 (outL [] 0)).toArray)
  have W0 := Aside0.mk ((Below.refl w.heap.size w).alloc (Nat.le_refl _) (.cells (nums .u8 (outL [] 0)).toArray 29))
  generalize hw0 : w.alloc (.cells (nums .u8 (outL [] 0)).toArray 29) = w0 at D0 W0
  have HW0 := Aside0.mk hw0
  clear hw0
  go_enter Try.func16, Try.ntmps16
  go_wp2_with (first | (rw [show (w.alloc (.cells #[.int .u8 0, .int .u8 0, .int .u8 0, .int .u8 0, .int .u8 0, .int .u8 0, .int .u8 0, .int .u8 0, .int .u8 0, .int .u8 0, .int .u8 0, .int .u8 0, .int .u8 0, .int .u8 0, .int .u8 0, .int .u8 0, .int .u8 0, .int .u8 0, .int .u8 0, .int .u8 0, .int .u8 0, .int .u8 0, .int .u8 0, .int .u8 0, .int .u8 0, .int .u8 0, .int .u8 0, .int .u8 0, .int .u8 0, .int .u8 0, .int .u8 0, .int .u8 0] 29)) = w0 from HW0.out]) | ((with_reducible refine (HC.out _).mono ?_); rintro e w3 ⟨rfl, hb⟩; have W3 := Aside0.mk (below_then W0.out W0.out.size hb); have D3 := Aside0.mk (D0.out.below hb D0.out.lt); clear hb) | (refine wpList_store_row rfl 29 (.tmp 0) (.tmp 2) rfl w.heap.size _ rfl rfl 29 _ D3.out (by rw [List.size_toArray, nums_length, emptySum_len]; kernel_rfl) (by rw [List.size_toArray, nums_length, outL_len, List.size_toArray, nums_length, emptySum_len]) (nums_all8 _) ?_))
  exact bodyPost_ret (results_cell_row (p := 0) (ty := 29) rfl _ _ w.heap.size 29 _ (0, 0) _ rfl (D3.out.setRow_ _) Try.underlying29 rfl (by rw [List.size_toArray, nums_length, emptySum_len]; kernel_rfl)) rfl ⟨rfl, below_setRow' W3.out (Nat.le_refl _) _⟩
set_option maxRecDepth 100000 in
set_option maxHeartbeats 4000000 in
theorem one_calls (s : ByteArray) (w : World) (hs : s.size ≤ 140737488355328) : Calls Try.prog 40 #[.string s] w fun e w' => e = .returned (.agg (nums .u8 (sumL s)).toArray) ∧ Below w.heap.size w w' := by
  have HS := Aside0.mk hs
  have D0 := Aside0.mk (Blk.new w 29 (nums .u8 (outL [] 0)).toArray)
  have W0 := Aside0.mk ((Below.refl w.heap.size w).alloc (Nat.le_refl _) (.cells (nums .u8 (outL [] 0)).toArray 29))
  generalize hw0 : w.alloc (.cells (nums .u8 (outL [] 0)).toArray 29) = w0 at D0 W0
  have HW0 := Aside0.mk hw0
  clear hw0 hs
  have W2 := W0.out.alloc (by have := W0.out.size; omega) (.cells #[.string s] 9)
  have D2 := D0.out.alloc (.cells #[.string s] 9)
  have S2 := (Blk.new w0 9 #[.string s])
  generalize hw2 : w0.alloc (.cells #[.string s] 9) = w2 at W2 D2 S2
  have HW2 := Aside0.mk hw2
  have S2l := Aside0.mk S2.lt
  have W2 := Aside0.mk W2
  have D2 := Aside0.mk D2
  have S2 : Aside0 (w2.cell? ⟨w0.heap.size, 0, none⟩ = some (.string s)) := ⟨S2.cell 0⟩
  clear hw2
  go_enter Try.func40, Try.ntmps40
  go_wp2_with (first | (rw [show (w.alloc (.cells #[.int .u8 0, .int .u8 0, .int .u8 0, .int .u8 0, .int .u8 0, .int .u8 0, .int .u8 0, .int .u8 0, .int .u8 0, .int .u8 0, .int .u8 0, .int .u8 0, .int .u8 0, .int .u8 0, .int .u8 0, .int .u8 0, .int .u8 0, .int .u8 0, .int .u8 0, .int .u8 0, .int .u8 0, .int .u8 0, .int .u8 0, .int .u8 0, .int .u8 0, .int .u8 0, .int .u8 0, .int .u8 0, .int .u8 0, .int .u8 0, .int .u8 0, .int .u8 0] 29)) = w0 from HW0.out]) | (rw [show w0.alloc (.cells #[.string s] 9) = w2 from HW2.out]) | ((with_reducible refine (rsum_calls w0.heap.size 0 1 s w2 S2.out S2l.out HS.out (Nat.le_refl _)).mono ?_); rintro e w3 ⟨rfl, hb⟩; have W3 := Aside0.mk (below_then W2.out W2.out.size hb); have D3 := Aside0.mk (D2.out.below hb D2.out.lt); clear hb) | (refine wpList_store_row rfl 29 (.tmp 2) (.tmp 5) rfl w.heap.size _ rfl rfl 29 _ D3.out (by rw [List.size_toArray, nums_length, sumL_len]; kernel_rfl) (by rw [List.size_toArray, nums_length, outL_len, List.size_toArray, nums_length, sumL_len]) (nums_all8 _) ?_))
  exact bodyPost_ret (results_cell_row (p := 2) (ty := 29) rfl _ _ w.heap.size 29 _ (0, 0) _ rfl (D3.out.setRow_ _) Try.underlying29 rfl (by rw [List.size_toArray, nums_length, sumL_len]; kernel_rfl)) rfl ⟨rfl, below_setRow' W3.out (Nat.le_refl _) _⟩

theorem lenB_inj : ∀ (k n m : Nat) (x y : List UInt8), n < k → lenB n ++ x = lenB m ++ y → n = m ∧ x = y
  | k + 1, n, m, x, y, h, e => by
    rw [lenB.eq_def n, lenB.eq_def m] at e
    by_cases c : 128 ≤ n
    · rw [if_pos c] at e
      by_cases d : 128 ≤ m
      · rw [if_pos d] at e
        simp only [List.cons_append, List.cons.injEq] at e
        obtain ⟨e1, e2⟩ := e
        obtain ⟨e3, e4⟩ := lenB_inj k (n / 128) (m / 128) x y (by omega) e2
        have e5 := congrArg UInt8.toNat e1
        rw [UInt8.toNat_ofNat', UInt8.toNat_ofNat'] at e5
        exact ⟨by omega, e4⟩
      · rw [if_neg d] at e
        simp only [List.cons_append, List.cons.injEq] at e
        have e5 := congrArg UInt8.toNat e.1
        rw [UInt8.toNat_ofNat', UInt8.toNat_ofNat'] at e5
        omega
    · rw [if_neg c] at e
      by_cases d : 128 ≤ m
      · rw [if_pos d] at e
        simp only [List.cons_append, List.cons.injEq] at e
        have e5 := congrArg UInt8.toNat e.1
        rw [UInt8.toNat_ofNat', UInt8.toNat_ofNat'] at e5
        omega
      · rw [if_neg d] at e
        simp only [List.cons_append, List.nil_append, List.cons.injEq] at e
        have e5 := congrArg UInt8.toNat e.1
        rw [UInt8.toNat_ofNat', UInt8.toNat_ofNat'] at e5
        exact ⟨by omega, e.2⟩
theorem rowB_inj : ∀ l m : List ByteArray, rowB l = rowB m → l = m
  | [], [], _ => rfl
  | [], t :: m, h => by
    have := lenB_ne t.size
    simp [rowB] at h
    exact absurd h.1 this
  | s :: l, [], h => by
    have := lenB_ne s.size
    simp [rowB] at h
    exact absurd h.1 this
  | s :: l, t :: m, h => by
    simp only [rowB, List.append_assoc] at h
    obtain ⟨e1, e2⟩ := lenB_inj _ _ _ _ _ (Nat.lt_succ_self _) h
    obtain ⟨e3, e4⟩ := List.append_inj e2 (by rw [Array.length_toList, Array.length_toList]; exact e1)
    have e5 : s = t := by
      cases s
      cases t
      congr 1
      exact Array.toList_inj.1 e3
    rw [e5, rowB_inj l m e4]
theorem imageL_inj {f0 f1 g0 g1 : List ByteArray} {s t : ByteArray} (h : imageL f0 f1 s = imageL g0 g1 t) : f0 = g0 ∧ f1 = g1 ∧ s = t := by
  have e := rowB_inj _ _ h
  simp only [List.cons.injEq, and_true, true_and, ByteArray.mk.injEq] at e
  obtain ⟨e1, e2, e3⟩ := e
  have r1 : rowB f0 = rowB g0 := by
    have := congrArg Array.toList e1
    simpa using this
  have r2 : rowB f1 = rowB g1 := by
    have := congrArg Array.toList e2
    simpa using this
  exact ⟨rowB_inj _ _ r1, rowB_inj _ _ r2, e3⟩
end Go.Proofs.Ytoljjgabgdifbaa.H
namespace Go.Proofs.Ytoljjgabgdifbaa.H
open Go.RowKit Go.Proofs.YtoljjgabgdifbaaW.PrintWords Go.Proofs.YtoljjgabgdifbaaW.PrintLast Go.Proofs.YtoljjgabgdifbaaW.PrintMore
set_option linter.unusedVariables false
set_option linter.unusedSimpArgs false

/-- A digest, as an element of a slice. -/
def kD : Kd (List Int) where
  sz := 32
  E := []
  K := fun _ L cs => cs = nums .u8 L ∧ L.length = 32
  M := fun _ _ _ L cs => cs = nums .u8 L ∧ L.length = 32
  K_len := by
    rintro w x cs ⟨rfl, h⟩
    rw [nums_length]; exact h
  K_one := by
    rintro w x cs ⟨rfl, h⟩
    exact nums_one8 x
  K_below := fun _ h => h
  K_of_M := fun h => h
  M_mono := fun _ h => h
  M_bound := fun h => h
  M_move := fun _ h => h
  M_lower := fun _ h => h
theorem info29 : (Try.prog.info? 29).map (fun i => (i.zero, i.size, i.bytes)) = some (some (.agg #[.int .u8 0, .int .u8 0, .int .u8 0, .int .u8 0, .int .u8 0, .int .u8 0, .int .u8 0, .int .u8 0, .int .u8 0, .int .u8 0, .int .u8 0, .int .u8 0, .int .u8 0, .int .u8 0, .int .u8 0, .int .u8 0, .int .u8 0, .int .u8 0, .int .u8 0, .int .u8 0, .int .u8 0, .int .u8 0, .int .u8 0, .int .u8 0, .int .u8 0, .int .u8 0, .int .u8 0, .int .u8 0, .int .u8 0, .int .u8 0, .int .u8 0, .int .u8 0]), 32, 32) := by kernel_rfl
theorem mid_loads {P : Program} {oi : Oper} {a : Act} (ty : TypeId) (x : Operand) (ho : oi.op = .load ty x) (b o : Nat) (hx : a.eval x = .pointer (some ⟨b, o, none⟩)) {w : World} {cs : List Value} (hc : w.rangeAt b o cs)
    {d : TypeDesc} (hu : P.underlying ty = some d) (hd : d.isRow = true) (hi : (P.info? ty).map (·.size) = some cs.length) :
    (execOp a.eval oi).run P w = .ok (.value (.agg cs.toArray)) w := by
  unfold execOp
  simp only [ho, hx, Sem.run_bind, Sem.run_pure, run_loadAt_mid w b o ty cs d hc hu hd hi, Result.andThen_ok]
/-- The texts and their digests: those of one digest are one text. -/
def Apt (l : List ByteArray) (n : Nat) : Prop := ∀ i k, k < i → i < n → sumL (at_ l i) = sumL (at_ l k) → (at_ l i).toList = (at_ l k).toList
noncomputable def aptB (l : List ByteArray) : Bool := @decide (Apt l l.length) (Classical.propDecidable _)
theorem aptB_true {l : List ByteArray} (h : Apt l l.length) : true = aptB l := by unfold aptB; simp [h]
theorem aptB_false {l : List ByteArray} (h : ¬ Apt l l.length) : false = aptB l := by unfold aptB; simp [h]
theorem aptB_apt {l : List ByteArray} (h : aptB l = true) : Apt l l.length := by unfold aptB at h; simpa using h
theorem sums_range {w : World} {b o : Nat} {l : List ByteArray} (h : Kd.C kD w (some ⟨b, o, none⟩) (l.map sumL).length (l.map sumL)) {j : Nat} (hj : j < l.length) : w.rangeAt b (o + j * 32) (nums .u8 (sumL (at_ l j))) := by
  obtain ⟨ad, e, hc⟩ := h.2.2 (by rw [List.length_map]; omega)
  cases e
  obtain ⟨cs, _, ⟨rfl, _⟩, hx⟩ := hc j (sumL (at_ l j)) (by simp [at_, List.getElem?_eq_getElem hj, List.getD_eq_getElem?_getD])
  intro i v hv
  have := hx i v hv
  rw [Addr.add_mid] at this
  rw [Nat.add_assoc]
  exact this
set_option maxRecDepth 100000 in
set_option maxHeartbeats 4000000 in
theorem runlike_calls (A : Option Addr) (c : Nat) (l : List ByteArray) (b o cap : Nat) (w : World) (hA : Kd.C Kd.string w A l.length l) (hB : Kd.C kD w (some ⟨b, o, none⟩) (l.map sumL).length (l.map sumL)) (hl : l.length ≤ 1048576) :
    Calls Try.prog 41 #[.slice A l.length c, .slice (some ⟨b, o, none⟩) l.length cap] w fun e w' => e = .returned (.bool (aptB l)) ∧ Drawn0 w w' := by
  have HA := Aside0.mk hA
  have HB := Aside0.mk hB
  have HL := Aside0.mk hl
  clear hA hB hl
  go_enter Try.func41, Try.ntmps41
  go_wp2_with fail
  go_loopg [5] l.length (fun gk v5 wl => ∃ i : Nat, v5 = .int .i64 i ∧ Aside0 (i + gk = l.length) ∧ Aside0 (Apt l i) ∧ Drawn0 w wl)
  case atStart => exact ⟨0, rfl, ⟨by omega⟩, ⟨fun i k _ h => by omega⟩, Drawn0.refl _⟩
  case round =>
    obtain ⟨i, rfl, hi, HI, ⟨m, rfl⟩⟩ := hrel
    by_cases hlt : i < l.length
    · have lt1 := eq_true (show (i : Int) < (l.length : Int) by omega)
      have lt0 := eq_true (show (0 : Int) ≤ (i : Int) by omega)
      obtain ⟨ada, eA, xi⟩ := Kd.at_string HA.out (i : Int) (by omega) (by omega)
      cases eA
      rw [rdOf_at, Int.toNat_natCast] at xi
      have ri := Aside0.mk (sums_range HB.out hlt)
      have hl := HL.out
      have ww : IntKind.i64.wrap ((i : Int) + 1) = (i : Int) + 1 := IntWalk.i64_in _ (by omega)
      go_wp2_with fail
      go_loopg [6] i (fun gk v6 wl => ∃ k : Nat, v6 = .int .i64 k ∧ Aside0 (k + gk = i) ∧ Aside0 (∀ j, j < k → sumL (at_ l i) = sumL (at_ l j) → (at_ l i).toList = (at_ l j).toList) ∧ Drawn0 w wl)
      case atStart => exact ⟨0, rfl, ⟨by omega⟩, ⟨fun j h => by omega⟩, ⟨m, rfl⟩⟩
      case round =>
        obtain ⟨k, rfl, hk, HK, ⟨m, rfl⟩⟩ := hrel
        by_cases hlk : k < i
        · have lk1 := eq_true (show (k : Int) < (i : Int) by omega)
          have lk2 := eq_true (show (k : Int) < (l.length : Int) by omega)
          have lk0 := eq_true (show (0 : Int) ≤ (k : Int) by omega)
          have wk : IntKind.i64.wrap ((k : Int) + 1) = (k : Int) + 1 := IntWalk.i64_in _ (by omega)
          obtain ⟨ada', eA, xk⟩ := Kd.at_string HA.out (k : Int) (by omega) (by omega)
          cases eA
          rw [rdOf_at, Int.toNat_natCast] at xk
          have rk := Aside0.mk (sums_range HB.out (show k < l.length by omega))
          have q := eq_dig (sumL_dig (at_ l i)) (sumL_dig (at_ l k))
          by_cases se : sumL (at_ l i) = sumL (at_ l k)
          · rw [decide_eq_true se] at q
            by_cases te : (at_ l i).toList = (at_ l k).toList
            · have ub : ((at_ l i).toList == (at_ l k).toList) = true := beq_iff_eq.mpr te
              have ub3 : ((at_ l i).toList != (at_ l k).toList) = false := bne_eq_false_iff_eq.mpr te
              have HT := Aside0.mk te
              clear te se
              go_wp2_with fail
              refine start_ (n := 20) (S := fun w' => w'.rangeAt b (o + i * 32) (nums .u8 (sumL (at_ l i))) ∧ w'.rangeAt b (o + k * 32) (nums .u8 (sumL (at_ l k))) ∧ w'.cell? (ada.add i) = some (.string (at_ l i)) ∧ w'.cell? (ada.add k) = some (.string (at_ l k))) (ds := []) #[false, false, false, false, false, false, false, false, false, false, false, false, false, false, false, false, false, false, false, false] (by kernel_rfl) rfl rfl ⟨ri.out, rk.out, xi, xk⟩ (fun hHeld => ?_)
              refine pure_ (i := 0) (N := some 18) (v := ?_) (a' := ?_) #[true, false, false, false, false, false, false, false, false, false, false, false, false, false, false, false, false, false, false, false] rfl rfl (by kernel_rfl) (fun _ _ _ h => h) (Or.inl ⟨by rfl, ?_⟩) ?_ ?_
              rotate_left
              · intro w'
                go_simp
                with_reducible rfl
              rotate_left
              · simp only [Act.put, List.setIfInBounds_toArray, List.set_cons_zero, List.set_cons_succ, i64_w, i32_w]
                rfl
              refine pure_ (i := 1) (N := some 19) (v := ?_) (a' := ?_) #[true, true, false, false, false, false, false, false, false, false, false, false, false, false, false, false, false, false, false, false] rfl rfl (by kernel_rfl) (fun _ _ _ h => h) (Or.inl ⟨by rfl, ?_⟩) ?_ ?_
              rotate_left
              · intro w'
                go_simp
                with_reducible rfl
              rotate_left
              · simp only [Act.put, List.setIfInBounds_toArray, List.set_cons_zero, List.set_cons_succ, i64_w, i32_w]
                rfl
              refine pure_ (i := 2) (N := some 20) (v := ?_) (a' := ?_) #[true, true, true, false, false, false, false, false, false, false, false, false, false, false, false, false, false, false, false, false] rfl rfl (by kernel_rfl) (fun _ _ _ h => h) (Or.inl ⟨by rfl, ?_⟩) ?_ ?_
              rotate_left
              · intro w'
                go_simp
                with_reducible rfl
              rotate_left
              · simp only [Act.put, List.setIfInBounds_toArray, List.set_cons_zero, List.set_cons_succ, i64_w, i32_w]
                rfl
              refine pure_ (i := 4) (N := some 22) (v := ?_) (a' := ?_) #[true, true, true, false, true, false, false, false, false, false, false, false, false, false, false, false, false, false, false, false] rfl rfl (by kernel_rfl) (fun _ _ _ h => h) (Or.inl ⟨by rfl, ?_⟩) ?_ ?_
              rotate_left
              · intro w'
                go_simp
                with_reducible rfl
              rotate_left
              · simp only [Act.put, List.setIfInBounds_toArray, List.set_cons_zero, List.set_cons_succ, i64_w, i32_w]
                rfl
              refine pure_ (i := 5) (N := some 23) (v := ?_) (a' := ?_) #[true, true, true, false, true, true, false, false, false, false, false, false, false, false, false, false, false, false, false, false] rfl rfl (by kernel_rfl) (fun _ _ _ h => h) (Or.inl ⟨by rfl, ?_⟩) ?_ ?_
              rotate_left
              · intro w'
                go_simp
                with_reducible rfl
              rotate_left
              · simp only [Act.put, List.setIfInBounds_toArray, List.set_cons_zero, List.set_cons_succ, i64_w, i32_w]
                rfl
              refine pure_ (i := 6) (N := some 24) (v := ?_) (a' := ?_) #[true, true, true, false, true, true, true, false, false, false, false, false, false, false, false, false, false, false, false, false] rfl rfl (by kernel_rfl) (fun _ _ _ h => h) (Or.inl ⟨by rfl, ?_⟩) ?_ ?_
              rotate_left
              · intro w'
                go_simp
                with_reducible rfl
              rotate_left
              · simp only [Act.put, List.setIfInBounds_toArray, List.set_cons_zero, List.set_cons_succ, i64_w, i32_w]
                rfl
              refine take_ (i := 3) (N := some 21) (v := ?_) (a' := ?_) #[true, true, true, true, true, true, true, false, false, false, false, false, false, false, false, false, false, false, false, false] rfl rfl (by kernel_rfl) (fun _ _ _ h => h) (Or.inl ⟨by rfl, ?_⟩) hHeld ?_ ?_
              rotate_left
              · rintro w' ⟨s0, s1, s2, s3⟩
                refine mid_loads 29 (.tmp 20) ?_ b (o + i * 32) ?_ s0 Try.underlying29 ?_ ?_
                · rfl
                · rfl
                · rfl
                · rw [nums_length, sumL_len]; kernel_rfl
              rotate_left
              · simp only [Act.put, List.setIfInBounds_toArray, List.set_cons_zero, List.set_cons_succ, i64_w, i32_w]
                rfl
              refine take_ (i := 7) (N := some 25) (v := ?_) (a' := ?_) #[true, true, true, true, true, true, true, true, false, false, false, false, false, false, false, false, false, false, false, false] rfl rfl (by kernel_rfl) (fun _ _ _ h => h) (Or.inl ⟨by rfl, ?_⟩) hHeld ?_ ?_
              rotate_left
              · rintro w' ⟨s0, s1, s2, s3⟩
                refine mid_loads 29 (.tmp 24) ?_ b (o + k * 32) ?_ s1 Try.underlying29 ?_ ?_
                · rfl
                · rfl
                · rfl
                · rw [nums_length, sumL_len]; kernel_rfl
              rotate_left
              · simp only [Act.put, List.setIfInBounds_toArray, List.set_cons_zero, List.set_cons_succ, i64_w, i32_w]
                rfl
              refine pure_ (i := 8) (N := some 26) (v := ?_) (a' := ?_) #[true, true, true, true, true, true, true, true, true, false, false, false, false, false, false, false, false, false, false, false] rfl rfl (by kernel_rfl) (fun _ _ _ h => h) (Or.inl ⟨by rfl, ?_⟩) ?_ ?_
              rotate_left
              · intro w'
                go_simp
                with_reducible rfl
              rotate_left
              · simp only [Act.put, List.setIfInBounds_toArray, List.set_cons_zero, List.set_cons_succ, i64_w, i32_w]
                rfl
              refine pure_ (i := 9) (N := some 27) (v := ?_) (a' := ?_) #[true, true, true, true, true, true, true, true, true, true, false, false, false, false, false, false, false, false, false, false] rfl rfl (by kernel_rfl) (fun _ _ _ h => h) (Or.inl ⟨by rfl, ?_⟩) ?_ ?_
              rotate_left
              · intro w'
                go_simp
                with_reducible rfl
              rotate_left
              · simp only [Act.put, List.setIfInBounds_toArray, List.set_cons_zero, List.set_cons_succ, i64_w, i32_w]
                rfl
              refine pure_ (i := 10) (N := some 28) (v := ?_) (a' := ?_) #[true, true, true, true, true, true, true, true, true, true, true, false, false, false, false, false, false, false, false, false] rfl rfl (by kernel_rfl) (fun _ _ _ h => h) (Or.inl ⟨by rfl, ?_⟩) ?_ ?_
              rotate_left
              · intro w'
                go_simp
                with_reducible rfl
              rotate_left
              · simp only [Act.put, List.setIfInBounds_toArray, List.set_cons_zero, List.set_cons_succ, i64_w, i32_w]
                rfl
              refine pure_ (i := 11) (N := some 29) (v := ?_) (a' := ?_) #[true, true, true, true, true, true, true, true, true, true, true, true, false, false, false, false, false, false, false, false] rfl rfl (by kernel_rfl) (fun _ _ _ h => h) (Or.inl ⟨by rfl, ?_⟩) ?_ ?_
              rotate_left
              · intro w'
                go_simp
                with_reducible rfl
              rotate_left
              · simp only [Act.put, List.setIfInBounds_toArray, List.set_cons_zero, List.set_cons_succ, i64_w, i32_w]
                rfl
              refine pure_ (i := 12) (N := some 30) (v := ?_) (a' := ?_) #[true, true, true, true, true, true, true, true, true, true, true, true, true, false, false, false, false, false, false, false] rfl rfl (by kernel_rfl) (fun _ _ _ h => h) (Or.inl ⟨by rfl, ?_⟩) ?_ ?_
              rotate_left
              · intro w'
                go_simp
                with_reducible rfl
              rotate_left
              · simp only [Act.put, List.setIfInBounds_toArray, List.set_cons_zero, List.set_cons_succ, i64_w, i32_w]
                rfl
              refine pure_ (i := 14) (N := some 32) (v := ?_) (a' := ?_) #[true, true, true, true, true, true, true, true, true, true, true, true, true, false, true, false, false, false, false, false] rfl rfl (by kernel_rfl) (fun _ _ _ h => h) (Or.inl ⟨by rfl, ?_⟩) ?_ ?_
              rotate_left
              · intro w'
                go_simp
                with_reducible rfl
              rotate_left
              · simp only [Act.put, List.setIfInBounds_toArray, List.set_cons_zero, List.set_cons_succ, i64_w, i32_w]
                rfl
              refine pure_ (i := 15) (N := some 33) (v := ?_) (a' := ?_) #[true, true, true, true, true, true, true, true, true, true, true, true, true, false, true, true, false, false, false, false] rfl rfl (by kernel_rfl) (fun _ _ _ h => h) (Or.inl ⟨by rfl, ?_⟩) ?_ ?_
              rotate_left
              · intro w'
                go_simp
                with_reducible rfl
              rotate_left
              · simp only [Act.put, List.setIfInBounds_toArray, List.set_cons_zero, List.set_cons_succ, i64_w, i32_w]
                rfl
              refine pure_ (i := 16) (N := some 34) (v := ?_) (a' := ?_) #[true, true, true, true, true, true, true, true, true, true, true, true, true, false, true, true, true, false, false, false] rfl rfl (by kernel_rfl) (fun _ _ _ h => h) (Or.inl ⟨by rfl, ?_⟩) ?_ ?_
              rotate_left
              · intro w'
                go_simp
                with_reducible rfl
              rotate_left
              · simp only [Act.put, List.setIfInBounds_toArray, List.set_cons_zero, List.set_cons_succ, i64_w, i32_w]
                rfl
              refine take_ (i := 13) (N := some 31) (v := ?_) (a' := ?_) #[true, true, true, true, true, true, true, true, true, true, true, true, true, true, true, true, true, false, false, false] rfl rfl (by kernel_rfl) (fun _ _ _ h => h) (Or.inl ⟨by rfl, ?_⟩) hHeld ?_ ?_
              rotate_left
              · rintro w' ⟨s0, s1, s2, s3⟩
                go_simp
                with_reducible rfl
              rotate_left
              · simp only [Act.put, List.setIfInBounds_toArray, List.set_cons_zero, List.set_cons_succ, i64_w, i32_w]
                rfl
              refine take_ (i := 17) (N := some 35) (v := ?_) (a' := ?_) #[true, true, true, true, true, true, true, true, true, true, true, true, true, true, true, true, true, true, false, false] rfl rfl (by kernel_rfl) (fun _ _ _ h => h) (Or.inl ⟨by rfl, ?_⟩) hHeld ?_ ?_
              rotate_left
              · rintro w' ⟨s0, s1, s2, s3⟩
                go_simp
                with_reducible rfl
              rotate_left
              · simp only [Act.put, List.setIfInBounds_toArray, List.set_cons_zero, List.set_cons_succ, i64_w, i32_w]
                rfl
              refine pure_ (i := 18) (N := some 36) (v := ?_) (a' := ?_) #[true, true, true, true, true, true, true, true, true, true, true, true, true, true, true, true, true, true, true, false] rfl rfl (by kernel_rfl) (fun _ _ _ h => h) (Or.inl ⟨by rfl, ?_⟩) ?_ ?_
              rotate_left
              · intro w'
                go_simp
                with_reducible rfl
              rotate_left
              · simp only [Act.put, List.setIfInBounds_toArray, List.set_cons_zero, List.set_cons_succ, i64_w, i32_w]
                rfl
              refine pure_ (i := 19) (N := some 37) (v := ?_) (a' := ?_) #[true, true, true, true, true, true, true, true, true, true, true, true, true, true, true, true, true, true, true, true] rfl rfl (by kernel_rfl) (fun _ _ _ h => h) (Or.inl ⟨by rfl, ?_⟩) ?_ ?_
              rotate_left
              · intro w'
                go_simp
                with_reducible rfl
              rotate_left
              · simp only [Act.put, List.setIfInBounds_toArray, List.set_cons_zero, List.set_cons_succ, i64_w, i32_w]
                rfl
              refine done_ (by kernel_rfl) ?_

              clear hHeld
              go_wp2_with fail
              go_roundg (i - k - 1)
              case measure => have := hk.out; omega
              case rel => exact ⟨k + 1, by push_cast; rfl, ⟨by have := hk.out; omega⟩, ⟨fun j hj hs => by
                  rcases Nat.lt_succ_iff_lt_or_eq.1 hj with h | h
                  · exact HK.out j h hs
                  · subst h; exact HT.out⟩, by repeat (first | exact Drawn0.refl _ | exact ⟨_, rfl⟩ | apply Drawn0.step)⟩
            · have ub : ((at_ l i).toList == (at_ l k).toList) = false := beq_eq_false_iff_ne.mpr te
              have ub3 : ((at_ l i).toList != (at_ l k).toList) = true := bne_iff_ne.mpr te
              have TE := Aside0.mk te
              have SE := Aside0.mk se
              clear te se
              go_wp2_with fail
              refine start_ (n := 20) (S := fun w' => w'.rangeAt b (o + i * 32) (nums .u8 (sumL (at_ l i))) ∧ w'.rangeAt b (o + k * 32) (nums .u8 (sumL (at_ l k))) ∧ w'.cell? (ada.add i) = some (.string (at_ l i)) ∧ w'.cell? (ada.add k) = some (.string (at_ l k))) (ds := []) #[false, false, false, false, false, false, false, false, false, false, false, false, false, false, false, false, false, false, false, false] (by kernel_rfl) rfl rfl ⟨ri.out, rk.out, xi, xk⟩ (fun hHeld => ?_)
              refine pure_ (i := 0) (N := some 18) (v := ?_) (a' := ?_) #[true, false, false, false, false, false, false, false, false, false, false, false, false, false, false, false, false, false, false, false] rfl rfl (by kernel_rfl) (fun _ _ _ h => h) (Or.inl ⟨by rfl, ?_⟩) ?_ ?_
              rotate_left
              · intro w'
                go_simp
                with_reducible rfl
              rotate_left
              · simp only [Act.put, List.setIfInBounds_toArray, List.set_cons_zero, List.set_cons_succ, i64_w, i32_w]
                rfl
              refine pure_ (i := 1) (N := some 19) (v := ?_) (a' := ?_) #[true, true, false, false, false, false, false, false, false, false, false, false, false, false, false, false, false, false, false, false] rfl rfl (by kernel_rfl) (fun _ _ _ h => h) (Or.inl ⟨by rfl, ?_⟩) ?_ ?_
              rotate_left
              · intro w'
                go_simp
                with_reducible rfl
              rotate_left
              · simp only [Act.put, List.setIfInBounds_toArray, List.set_cons_zero, List.set_cons_succ, i64_w, i32_w]
                rfl
              refine pure_ (i := 2) (N := some 20) (v := ?_) (a' := ?_) #[true, true, true, false, false, false, false, false, false, false, false, false, false, false, false, false, false, false, false, false] rfl rfl (by kernel_rfl) (fun _ _ _ h => h) (Or.inl ⟨by rfl, ?_⟩) ?_ ?_
              rotate_left
              · intro w'
                go_simp
                with_reducible rfl
              rotate_left
              · simp only [Act.put, List.setIfInBounds_toArray, List.set_cons_zero, List.set_cons_succ, i64_w, i32_w]
                rfl
              refine pure_ (i := 4) (N := some 22) (v := ?_) (a' := ?_) #[true, true, true, false, true, false, false, false, false, false, false, false, false, false, false, false, false, false, false, false] rfl rfl (by kernel_rfl) (fun _ _ _ h => h) (Or.inl ⟨by rfl, ?_⟩) ?_ ?_
              rotate_left
              · intro w'
                go_simp
                with_reducible rfl
              rotate_left
              · simp only [Act.put, List.setIfInBounds_toArray, List.set_cons_zero, List.set_cons_succ, i64_w, i32_w]
                rfl
              refine pure_ (i := 5) (N := some 23) (v := ?_) (a' := ?_) #[true, true, true, false, true, true, false, false, false, false, false, false, false, false, false, false, false, false, false, false] rfl rfl (by kernel_rfl) (fun _ _ _ h => h) (Or.inl ⟨by rfl, ?_⟩) ?_ ?_
              rotate_left
              · intro w'
                go_simp
                with_reducible rfl
              rotate_left
              · simp only [Act.put, List.setIfInBounds_toArray, List.set_cons_zero, List.set_cons_succ, i64_w, i32_w]
                rfl
              refine pure_ (i := 6) (N := some 24) (v := ?_) (a' := ?_) #[true, true, true, false, true, true, true, false, false, false, false, false, false, false, false, false, false, false, false, false] rfl rfl (by kernel_rfl) (fun _ _ _ h => h) (Or.inl ⟨by rfl, ?_⟩) ?_ ?_
              rotate_left
              · intro w'
                go_simp
                with_reducible rfl
              rotate_left
              · simp only [Act.put, List.setIfInBounds_toArray, List.set_cons_zero, List.set_cons_succ, i64_w, i32_w]
                rfl
              refine take_ (i := 3) (N := some 21) (v := ?_) (a' := ?_) #[true, true, true, true, true, true, true, false, false, false, false, false, false, false, false, false, false, false, false, false] rfl rfl (by kernel_rfl) (fun _ _ _ h => h) (Or.inl ⟨by rfl, ?_⟩) hHeld ?_ ?_
              rotate_left
              · rintro w' ⟨s0, s1, s2, s3⟩
                refine mid_loads 29 (.tmp 20) ?_ b (o + i * 32) ?_ s0 Try.underlying29 ?_ ?_
                · rfl
                · rfl
                · rfl
                · rw [nums_length, sumL_len]; kernel_rfl
              rotate_left
              · simp only [Act.put, List.setIfInBounds_toArray, List.set_cons_zero, List.set_cons_succ, i64_w, i32_w]
                rfl
              refine take_ (i := 7) (N := some 25) (v := ?_) (a' := ?_) #[true, true, true, true, true, true, true, true, false, false, false, false, false, false, false, false, false, false, false, false] rfl rfl (by kernel_rfl) (fun _ _ _ h => h) (Or.inl ⟨by rfl, ?_⟩) hHeld ?_ ?_
              rotate_left
              · rintro w' ⟨s0, s1, s2, s3⟩
                refine mid_loads 29 (.tmp 24) ?_ b (o + k * 32) ?_ s1 Try.underlying29 ?_ ?_
                · rfl
                · rfl
                · rfl
                · rw [nums_length, sumL_len]; kernel_rfl
              rotate_left
              · simp only [Act.put, List.setIfInBounds_toArray, List.set_cons_zero, List.set_cons_succ, i64_w, i32_w]
                rfl
              refine pure_ (i := 8) (N := some 26) (v := ?_) (a' := ?_) #[true, true, true, true, true, true, true, true, true, false, false, false, false, false, false, false, false, false, false, false] rfl rfl (by kernel_rfl) (fun _ _ _ h => h) (Or.inl ⟨by rfl, ?_⟩) ?_ ?_
              rotate_left
              · intro w'
                go_simp
                with_reducible rfl
              rotate_left
              · simp only [Act.put, List.setIfInBounds_toArray, List.set_cons_zero, List.set_cons_succ, i64_w, i32_w]
                rfl
              refine pure_ (i := 9) (N := some 27) (v := ?_) (a' := ?_) #[true, true, true, true, true, true, true, true, true, true, false, false, false, false, false, false, false, false, false, false] rfl rfl (by kernel_rfl) (fun _ _ _ h => h) (Or.inl ⟨by rfl, ?_⟩) ?_ ?_
              rotate_left
              · intro w'
                go_simp
                with_reducible rfl
              rotate_left
              · simp only [Act.put, List.setIfInBounds_toArray, List.set_cons_zero, List.set_cons_succ, i64_w, i32_w]
                rfl
              refine pure_ (i := 10) (N := some 28) (v := ?_) (a' := ?_) #[true, true, true, true, true, true, true, true, true, true, true, false, false, false, false, false, false, false, false, false] rfl rfl (by kernel_rfl) (fun _ _ _ h => h) (Or.inl ⟨by rfl, ?_⟩) ?_ ?_
              rotate_left
              · intro w'
                go_simp
                with_reducible rfl
              rotate_left
              · simp only [Act.put, List.setIfInBounds_toArray, List.set_cons_zero, List.set_cons_succ, i64_w, i32_w]
                rfl
              refine pure_ (i := 11) (N := some 29) (v := ?_) (a' := ?_) #[true, true, true, true, true, true, true, true, true, true, true, true, false, false, false, false, false, false, false, false] rfl rfl (by kernel_rfl) (fun _ _ _ h => h) (Or.inl ⟨by rfl, ?_⟩) ?_ ?_
              rotate_left
              · intro w'
                go_simp
                with_reducible rfl
              rotate_left
              · simp only [Act.put, List.setIfInBounds_toArray, List.set_cons_zero, List.set_cons_succ, i64_w, i32_w]
                rfl
              refine pure_ (i := 12) (N := some 30) (v := ?_) (a' := ?_) #[true, true, true, true, true, true, true, true, true, true, true, true, true, false, false, false, false, false, false, false] rfl rfl (by kernel_rfl) (fun _ _ _ h => h) (Or.inl ⟨by rfl, ?_⟩) ?_ ?_
              rotate_left
              · intro w'
                go_simp
                with_reducible rfl
              rotate_left
              · simp only [Act.put, List.setIfInBounds_toArray, List.set_cons_zero, List.set_cons_succ, i64_w, i32_w]
                rfl
              refine pure_ (i := 14) (N := some 32) (v := ?_) (a' := ?_) #[true, true, true, true, true, true, true, true, true, true, true, true, true, false, true, false, false, false, false, false] rfl rfl (by kernel_rfl) (fun _ _ _ h => h) (Or.inl ⟨by rfl, ?_⟩) ?_ ?_
              rotate_left
              · intro w'
                go_simp
                with_reducible rfl
              rotate_left
              · simp only [Act.put, List.setIfInBounds_toArray, List.set_cons_zero, List.set_cons_succ, i64_w, i32_w]
                rfl
              refine pure_ (i := 15) (N := some 33) (v := ?_) (a' := ?_) #[true, true, true, true, true, true, true, true, true, true, true, true, true, false, true, true, false, false, false, false] rfl rfl (by kernel_rfl) (fun _ _ _ h => h) (Or.inl ⟨by rfl, ?_⟩) ?_ ?_
              rotate_left
              · intro w'
                go_simp
                with_reducible rfl
              rotate_left
              · simp only [Act.put, List.setIfInBounds_toArray, List.set_cons_zero, List.set_cons_succ, i64_w, i32_w]
                rfl
              refine pure_ (i := 16) (N := some 34) (v := ?_) (a' := ?_) #[true, true, true, true, true, true, true, true, true, true, true, true, true, false, true, true, true, false, false, false] rfl rfl (by kernel_rfl) (fun _ _ _ h => h) (Or.inl ⟨by rfl, ?_⟩) ?_ ?_
              rotate_left
              · intro w'
                go_simp
                with_reducible rfl
              rotate_left
              · simp only [Act.put, List.setIfInBounds_toArray, List.set_cons_zero, List.set_cons_succ, i64_w, i32_w]
                rfl
              refine take_ (i := 13) (N := some 31) (v := ?_) (a' := ?_) #[true, true, true, true, true, true, true, true, true, true, true, true, true, true, true, true, true, false, false, false] rfl rfl (by kernel_rfl) (fun _ _ _ h => h) (Or.inl ⟨by rfl, ?_⟩) hHeld ?_ ?_
              rotate_left
              · rintro w' ⟨s0, s1, s2, s3⟩
                go_simp
                with_reducible rfl
              rotate_left
              · simp only [Act.put, List.setIfInBounds_toArray, List.set_cons_zero, List.set_cons_succ, i64_w, i32_w]
                rfl
              refine take_ (i := 17) (N := some 35) (v := ?_) (a' := ?_) #[true, true, true, true, true, true, true, true, true, true, true, true, true, true, true, true, true, true, false, false] rfl rfl (by kernel_rfl) (fun _ _ _ h => h) (Or.inl ⟨by rfl, ?_⟩) hHeld ?_ ?_
              rotate_left
              · rintro w' ⟨s0, s1, s2, s3⟩
                go_simp
                with_reducible rfl
              rotate_left
              · simp only [Act.put, List.setIfInBounds_toArray, List.set_cons_zero, List.set_cons_succ, i64_w, i32_w]
                rfl
              refine pure_ (i := 18) (N := some 36) (v := ?_) (a' := ?_) #[true, true, true, true, true, true, true, true, true, true, true, true, true, true, true, true, true, true, true, false] rfl rfl (by kernel_rfl) (fun _ _ _ h => h) (Or.inl ⟨by rfl, ?_⟩) ?_ ?_
              rotate_left
              · intro w'
                go_simp
                with_reducible rfl
              rotate_left
              · simp only [Act.put, List.setIfInBounds_toArray, List.set_cons_zero, List.set_cons_succ, i64_w, i32_w]
                rfl
              refine pure_ (i := 19) (N := some 37) (v := ?_) (a' := ?_) #[true, true, true, true, true, true, true, true, true, true, true, true, true, true, true, true, true, true, true, true] rfl rfl (by kernel_rfl) (fun _ _ _ h => h) (Or.inl ⟨by rfl, ?_⟩) ?_ ?_
              rotate_left
              · intro w'
                go_simp
                with_reducible rfl
              rotate_left
              · simp only [Act.put, List.setIfInBounds_toArray, List.set_cons_zero, List.set_cons_succ, i64_w, i32_w]
                rfl
              refine done_ (by kernel_rfl) ?_

              clear hHeld
              go_wp2_with fail
              go_ret
              exact ⟨congrArg (fun b => Ending.returned (Value.bool b)) (aptB_false (fun hA => TE.out (hA i k hlk hlt SE.out))), by repeat (first | exact Drawn0.refl _ | exact ⟨_, rfl⟩ | apply Drawn0.step)⟩
          · rw [decide_eq_false se] at q
            have HSE := Aside0.mk se
            clear se
            go_wp2_with fail
            refine start_ (n := 20) (S := fun w' => w'.rangeAt b (o + i * 32) (nums .u8 (sumL (at_ l i))) ∧ w'.rangeAt b (o + k * 32) (nums .u8 (sumL (at_ l k))) ∧ w'.cell? (ada.add i) = some (.string (at_ l i)) ∧ w'.cell? (ada.add k) = some (.string (at_ l k))) (ds := []) #[false, false, false, false, false, false, false, false, false, false, false, false, false, false, false, false, false, false, false, false] (by kernel_rfl) rfl rfl ⟨ri.out, rk.out, xi, xk⟩ (fun hHeld => ?_)
            refine pure_ (i := 0) (N := some 18) (v := ?_) (a' := ?_) #[true, false, false, false, false, false, false, false, false, false, false, false, false, false, false, false, false, false, false, false] rfl rfl (by kernel_rfl) (fun _ _ _ h => h) (Or.inl ⟨by rfl, ?_⟩) ?_ ?_
            rotate_left
            · intro w'
              go_simp
              with_reducible rfl
            rotate_left
            · simp only [Act.put, List.setIfInBounds_toArray, List.set_cons_zero, List.set_cons_succ, i64_w, i32_w]
              rfl
            refine pure_ (i := 1) (N := some 19) (v := ?_) (a' := ?_) #[true, true, false, false, false, false, false, false, false, false, false, false, false, false, false, false, false, false, false, false] rfl rfl (by kernel_rfl) (fun _ _ _ h => h) (Or.inl ⟨by rfl, ?_⟩) ?_ ?_
            rotate_left
            · intro w'
              go_simp
              with_reducible rfl
            rotate_left
            · simp only [Act.put, List.setIfInBounds_toArray, List.set_cons_zero, List.set_cons_succ, i64_w, i32_w]
              rfl
            refine pure_ (i := 2) (N := some 20) (v := ?_) (a' := ?_) #[true, true, true, false, false, false, false, false, false, false, false, false, false, false, false, false, false, false, false, false] rfl rfl (by kernel_rfl) (fun _ _ _ h => h) (Or.inl ⟨by rfl, ?_⟩) ?_ ?_
            rotate_left
            · intro w'
              go_simp
              with_reducible rfl
            rotate_left
            · simp only [Act.put, List.setIfInBounds_toArray, List.set_cons_zero, List.set_cons_succ, i64_w, i32_w]
              rfl
            refine pure_ (i := 4) (N := some 22) (v := ?_) (a' := ?_) #[true, true, true, false, true, false, false, false, false, false, false, false, false, false, false, false, false, false, false, false] rfl rfl (by kernel_rfl) (fun _ _ _ h => h) (Or.inl ⟨by rfl, ?_⟩) ?_ ?_
            rotate_left
            · intro w'
              go_simp
              with_reducible rfl
            rotate_left
            · simp only [Act.put, List.setIfInBounds_toArray, List.set_cons_zero, List.set_cons_succ, i64_w, i32_w]
              rfl
            refine pure_ (i := 5) (N := some 23) (v := ?_) (a' := ?_) #[true, true, true, false, true, true, false, false, false, false, false, false, false, false, false, false, false, false, false, false] rfl rfl (by kernel_rfl) (fun _ _ _ h => h) (Or.inl ⟨by rfl, ?_⟩) ?_ ?_
            rotate_left
            · intro w'
              go_simp
              with_reducible rfl
            rotate_left
            · simp only [Act.put, List.setIfInBounds_toArray, List.set_cons_zero, List.set_cons_succ, i64_w, i32_w]
              rfl
            refine pure_ (i := 6) (N := some 24) (v := ?_) (a' := ?_) #[true, true, true, false, true, true, true, false, false, false, false, false, false, false, false, false, false, false, false, false] rfl rfl (by kernel_rfl) (fun _ _ _ h => h) (Or.inl ⟨by rfl, ?_⟩) ?_ ?_
            rotate_left
            · intro w'
              go_simp
              with_reducible rfl
            rotate_left
            · simp only [Act.put, List.setIfInBounds_toArray, List.set_cons_zero, List.set_cons_succ, i64_w, i32_w]
              rfl
            refine take_ (i := 3) (N := some 21) (v := ?_) (a' := ?_) #[true, true, true, true, true, true, true, false, false, false, false, false, false, false, false, false, false, false, false, false] rfl rfl (by kernel_rfl) (fun _ _ _ h => h) (Or.inl ⟨by rfl, ?_⟩) hHeld ?_ ?_
            rotate_left
            · rintro w' ⟨s0, s1, s2, s3⟩
              refine mid_loads 29 (.tmp 20) ?_ b (o + i * 32) ?_ s0 Try.underlying29 ?_ ?_
              · rfl
              · rfl
              · rfl
              · rw [nums_length, sumL_len]; kernel_rfl
            rotate_left
            · simp only [Act.put, List.setIfInBounds_toArray, List.set_cons_zero, List.set_cons_succ, i64_w, i32_w]
              rfl
            refine take_ (i := 7) (N := some 25) (v := ?_) (a' := ?_) #[true, true, true, true, true, true, true, true, false, false, false, false, false, false, false, false, false, false, false, false] rfl rfl (by kernel_rfl) (fun _ _ _ h => h) (Or.inl ⟨by rfl, ?_⟩) hHeld ?_ ?_
            rotate_left
            · rintro w' ⟨s0, s1, s2, s3⟩
              refine mid_loads 29 (.tmp 24) ?_ b (o + k * 32) ?_ s1 Try.underlying29 ?_ ?_
              · rfl
              · rfl
              · rfl
              · rw [nums_length, sumL_len]; kernel_rfl
            rotate_left
            · simp only [Act.put, List.setIfInBounds_toArray, List.set_cons_zero, List.set_cons_succ, i64_w, i32_w]
              rfl
            refine pure_ (i := 8) (N := some 26) (v := ?_) (a' := ?_) #[true, true, true, true, true, true, true, true, true, false, false, false, false, false, false, false, false, false, false, false] rfl rfl (by kernel_rfl) (fun _ _ _ h => h) (Or.inl ⟨by rfl, ?_⟩) ?_ ?_
            rotate_left
            · intro w'
              go_simp
              with_reducible rfl
            rotate_left
            · simp only [Act.put, List.setIfInBounds_toArray, List.set_cons_zero, List.set_cons_succ, i64_w, i32_w]
              rfl
            refine pure_ (i := 9) (N := some 27) (v := ?_) (a' := ?_) #[true, true, true, true, true, true, true, true, true, true, false, false, false, false, false, false, false, false, false, false] rfl rfl (by kernel_rfl) (fun _ _ _ h => h) (Or.inl ⟨by rfl, ?_⟩) ?_ ?_
            rotate_left
            · intro w'
              go_simp
              with_reducible rfl
            rotate_left
            · simp only [Act.put, List.setIfInBounds_toArray, List.set_cons_zero, List.set_cons_succ, i64_w, i32_w]
              rfl
            refine pure_ (i := 10) (N := some 28) (v := undef) (a' := ?_) #[true, true, true, true, true, true, true, true, true, true, true, false, false, false, false, false, false, false, false, false] rfl rfl (by kernel_rfl) (fun _ _ _ h => h) (Or.inr ⟨by rfl, rfl⟩) ?_ ?_
            rotate_left
            · simp only [Act.put, List.setIfInBounds_toArray, List.set_cons_zero, List.set_cons_succ, i64_w, i32_w]
              rfl
            refine pure_ (i := 11) (N := some 29) (v := undef) (a' := ?_) #[true, true, true, true, true, true, true, true, true, true, true, true, false, false, false, false, false, false, false, false] rfl rfl (by kernel_rfl) (fun _ _ _ h => h) (Or.inr ⟨by rfl, rfl⟩) ?_ ?_
            rotate_left
            · simp only [Act.put, List.setIfInBounds_toArray, List.set_cons_zero, List.set_cons_succ, i64_w, i32_w]
              rfl
            refine pure_ (i := 12) (N := some 30) (v := undef) (a' := ?_) #[true, true, true, true, true, true, true, true, true, true, true, true, true, false, false, false, false, false, false, false] rfl rfl (by kernel_rfl) (fun _ _ _ h => h) (Or.inr ⟨by rfl, rfl⟩) ?_ ?_
            rotate_left
            · simp only [Act.put, List.setIfInBounds_toArray, List.set_cons_zero, List.set_cons_succ, i64_w, i32_w]
              rfl
            refine pure_ (i := 13) (N := some 31) (v := undef) (a' := ?_) #[true, true, true, true, true, true, true, true, true, true, true, true, true, true, false, false, false, false, false, false] rfl rfl (by kernel_rfl) (fun _ _ _ h => h) (Or.inr ⟨by rfl, rfl⟩) ?_ ?_
            rotate_left
            · simp only [Act.put, List.setIfInBounds_toArray, List.set_cons_zero, List.set_cons_succ, i64_w, i32_w]
              rfl
            refine pure_ (i := 14) (N := some 32) (v := undef) (a' := ?_) #[true, true, true, true, true, true, true, true, true, true, true, true, true, true, true, false, false, false, false, false] rfl rfl (by kernel_rfl) (fun _ _ _ h => h) (Or.inr ⟨by rfl, rfl⟩) ?_ ?_
            rotate_left
            · simp only [Act.put, List.setIfInBounds_toArray, List.set_cons_zero, List.set_cons_succ, i64_w, i32_w]
              rfl
            refine pure_ (i := 15) (N := some 33) (v := undef) (a' := ?_) #[true, true, true, true, true, true, true, true, true, true, true, true, true, true, true, true, false, false, false, false] rfl rfl (by kernel_rfl) (fun _ _ _ h => h) (Or.inr ⟨by rfl, rfl⟩) ?_ ?_
            rotate_left
            · simp only [Act.put, List.setIfInBounds_toArray, List.set_cons_zero, List.set_cons_succ, i64_w, i32_w]
              rfl
            refine pure_ (i := 16) (N := some 34) (v := undef) (a' := ?_) #[true, true, true, true, true, true, true, true, true, true, true, true, true, true, true, true, true, false, false, false] rfl rfl (by kernel_rfl) (fun _ _ _ h => h) (Or.inr ⟨by rfl, rfl⟩) ?_ ?_
            rotate_left
            · simp only [Act.put, List.setIfInBounds_toArray, List.set_cons_zero, List.set_cons_succ, i64_w, i32_w]
              rfl
            refine pure_ (i := 17) (N := some 35) (v := undef) (a' := ?_) #[true, true, true, true, true, true, true, true, true, true, true, true, true, true, true, true, true, true, false, false] rfl rfl (by kernel_rfl) (fun _ _ _ h => h) (Or.inr ⟨by rfl, rfl⟩) ?_ ?_
            rotate_left
            · simp only [Act.put, List.setIfInBounds_toArray, List.set_cons_zero, List.set_cons_succ, i64_w, i32_w]
              rfl
            refine pure_ (i := 18) (N := some 36) (v := undef) (a' := ?_) #[true, true, true, true, true, true, true, true, true, true, true, true, true, true, true, true, true, true, true, false] rfl rfl (by kernel_rfl) (fun _ _ _ h => h) (Or.inr ⟨by rfl, rfl⟩) ?_ ?_
            rotate_left
            · simp only [Act.put, List.setIfInBounds_toArray, List.set_cons_zero, List.set_cons_succ, i64_w, i32_w]
              rfl
            refine pure_ (i := 19) (N := some 37) (v := ?_) (a' := ?_) #[true, true, true, true, true, true, true, true, true, true, true, true, true, true, true, true, true, true, true, true] rfl rfl (by kernel_rfl) (fun _ _ _ h => h) (Or.inl ⟨by rfl, ?_⟩) ?_ ?_
            rotate_left
            · intro w'
              go_simp
              with_reducible rfl
            rotate_left
            · simp only [Act.put, List.setIfInBounds_toArray, List.set_cons_zero, List.set_cons_succ, i64_w, i32_w]
              rfl
            refine done_ (by kernel_rfl) ?_

            clear hHeld
            go_wp2_with fail
            go_roundg (i - k - 1)
            case measure => have := hk.out; omega
            case rel => exact ⟨k + 1, by push_cast; rfl, ⟨by have := hk.out; omega⟩, ⟨fun j hj hs => by
                  rcases Nat.lt_succ_iff_lt_or_eq.1 hj with h | h
                  · exact HK.out j h hs
                  · subst h; exact absurd hs HSE.out⟩, by repeat (first | exact Drawn0.refl _ | exact ⟨_, rfl⟩ | apply Drawn0.step)⟩
        · obtain rfl : k = i := by have := hk.out; omega
          clear hlk hk
          go_wp2_with fail
          go_roundg (l.length - k - 1)
          case measure => have := hi.out; omega
          case rel => exact ⟨k + 1, by push_cast; rfl, ⟨by have := hi.out; omega⟩, ⟨fun a b hb ha hs => by
              rcases Nat.lt_succ_iff_lt_or_eq.1 ha with h | h
              · exact HI.out a b hb h hs
              · subst h; exact HK.out b hb hs⟩, by repeat (first | exact Drawn0.refl _ | exact ⟨_, rfl⟩ | apply Drawn0.step)⟩
    · obtain rfl : i = l.length := by have := hi.out; omega
      go_wp2_with fail
      go_ret
      exact ⟨congrArg (fun b => Ending.returned (Value.bool b)) (aptB_true HI.out), by repeat (first | exact Drawn0.refl _ | exact ⟨_, rfl⟩ | apply Drawn0.step)⟩
end Go.Proofs.Ytoljjgabgdifbaa.H
namespace Go.Proofs.Ytoljjgabgdifbaa.H
open Go.RowKit Go.Proofs.YtoljjgabgdifbaaW.PrintWords Go.Proofs.YtoljjgabgdifbaaW.PrintLast Go.Proofs.YtoljjgabgdifbaaW.PrintMore
set_option linter.unusedVariables false
set_option linter.unusedSimpArgs false

set_option maxRecDepth 100000 in
set_option maxHeartbeats 4000000 in
theorem rApart_calls (A : Option Addr) (c : Nat) (l : List ByteArray) (w : World) (hA : Kd.C Kd.string w A l.length l) (hc : l.length ≤ c) (hl : l.length ≤ 1048576) (hp : 0 < l.length) (hs : ∀ j, (at_ l j).size ≤ 140737488355328) :
    Calls Try.prog 29 #[.slice A l.length c] w fun e w' => e = .returned (.bool (aptB l)) ∧ Below w.heap.size w w' := by
  have HA := Aside0.mk hA
  have HL := Aside0.mk hl
  have HP := Aside0.mk hp
  have HS := Aside0.mk hs
  clear hA hl hs hp
  have LS : (l.map sumL).length = l.length := List.length_map ..
  obtain ⟨S, hS⟩ : ∃ S, S = l.map sumL := ⟨_, rfl⟩
  have LS : Aside0 (S.length = l.length) := ⟨by rw [hS]; exact LS⟩
  have HSS := Aside0.mk hS
  clear hS
  go_enter Try.func29, Try.ntmps29
  go_wp2_with fail
  go_loopg [3, 4] l.length (fun gk v3 v4 wl => ∃ (i : Nat), v4 = .int .i64 i ∧ Aside0 (i + gk = l.length) ∧ Aside0 (Kd.R kD 29 wl w.heap.size (fun _ => True) v3 (S.take i)) ∧ Aside0 (Below w.heap.size w wl))
  case atStart => exact ⟨0, rfl, ⟨by omega⟩, ⟨Kd.R_nil _ _ _ _ _⟩, ⟨Below.refl _ _⟩⟩
  case round =>
    obtain ⟨i, rfl, hi, HR, HB⟩ := hrel
    by_cases hlt : i < l.length
    · have lt1 := eq_true (show (i : Int) < (l.length : Int) by omega)
      have lt0 := eq_true (show (0 : Int) ≤ (i : Int) by omega)
      obtain ⟨ada, eA, xi⟩ := Kd.at_string (Kd.C_below HA.out HB.out) (i : Int) (by omega) (by omega)
      cases eA
      rw [rdOf_at, Int.toNat_natCast] at xi
      have ww : IntKind.i64.wrap ((i : Int) + 1) = (i : Int) + 1 := IntWalk.i64_in _ (by have := HL.out; omega)
      obtain ⟨x0, x1, x2, x3, x4, x5, x6, x7, x8, x9, x10, x11, x12, x13, x14, x15, x16, x17, x18, x19, x20, x21, x22, x23, x24, x25, x26, x27, x28, x29, x30, x31, eL⟩ := list32 (sumL (at_ l i)) (sumL_len _)
      have OC : Aside0 (∀ W, Calls Try.prog 40 #[.string (at_ l i)] W fun e w' => e = .returned (.agg #[.int .u8 x0, .int .u8 x1, .int .u8 x2, .int .u8 x3, .int .u8 x4, .int .u8 x5, .int .u8 x6, .int .u8 x7, .int .u8 x8, .int .u8 x9, .int .u8 x10, .int .u8 x11, .int .u8 x12, .int .u8 x13, .int .u8 x14, .int .u8 x15, .int .u8 x16, .int .u8 x17, .int .u8 x18, .int .u8 x19, .int .u8 x20, .int .u8 x21, .int .u8 x22, .int .u8 x23, .int .u8 x24, .int .u8 x25, .int .u8 x26, .int .u8 x27, .int .u8 x28, .int .u8 x29, .int .u8 x30, .int .u8 x31]) ∧ Below W.heap.size W w') := ⟨fun W => by
        have z := one_calls (at_ l i) W (HS.out i)
        rw [eL] at z
        exact z⟩
      have ES : Aside0 (S.take (i + 1) = S.take i ++ [[x0, x1, x2, x3, x4, x5, x6, x7, x8, x9, x10, x11, x12, x13, x14, x15, x16, x17, x18, x19, x20, x21, x22, x23, x24, x25, x26, x27, x28, x29, x30, x31]]) := ⟨by
        have : S[i]? = some [x0, x1, x2, x3, x4, x5, x6, x7, x8, x9, x10, x11, x12, x13, x14, x15, x16, x17, x18, x19, x20, x21, x22, x23, x24, x25, x26, x27, x28, x29, x30, x31] := by rw [HSS.out, List.getElem?_map, List.getElem?_eq_getElem hlt, ← eL]; simp [at_, List.getD_eq_getElem?_getD, List.getElem?_eq_getElem hlt]
        rw [List.take_add_one, this]
        rfl⟩
      clear eL
      go_wp2_with (first | ((with_reducible refine (OC.out _).mono ?_); rintro e w3 ⟨rfl, hb⟩; have HR3 := Aside0.mk (Kd.R_below HR.out hb); have HB3 := Aside0.mk (below_then HB.out HB.out.size hb); clear hb HR HB) | ((with_reducible refine gate_builtin (b := .append) (xs := #[.tmp 11, .tmp 17]) rfl ?_); at_builtin; refine Kd.R_append kD (w0 := w) w.heap.size rfl (.tmp 11) (.tmp 17) 64 29 (.agg #[.int .u8 0, .int .u8 0, .int .u8 0, .int .u8 0, .int .u8 0, .int .u8 0, .int .u8 0, .int .u8 0, .int .u8 0, .int .u8 0, .int .u8 0, .int .u8 0, .int .u8 0, .int .u8 0, .int .u8 0, .int .u8 0, .int .u8 0, .int .u8 0, .int .u8 0, .int .u8 0, .int .u8 0, .int .u8 0, .int .u8 0, .int .u8 0, .int .u8 0, .int .u8 0, .int .u8 0, .int .u8 0, .int .u8 0, .int .u8 0, .int .u8 0, .int .u8 0]) 32 rfl Try.underlying64 info29 rfl (by decide) (by omega) _ (S.take i) [x0, x1, x2, x3, x4, x5, x6, x7, x8, x9, x10, x11, x12, x13, x14, x15, x16, x17, x18, x19, x20, x21, x22, x23, x24, x25, x26, x27, x28, x29, x30, x31] [.int .u8 x0, .int .u8 x1, .int .u8 x2, .int .u8 x3, .int .u8 x4, .int .u8 x5, .int .u8 x6, .int .u8 x7, .int .u8 x8, .int .u8 x9, .int .u8 x10, .int .u8 x11, .int .u8 x12, .int .u8 x13, .int .u8 x14, .int .u8 x15, .int .u8 x16, .int .u8 x17, .int .u8 x18, .int .u8 x19, .int .u8 x20, .int .u8 x21, .int .u8 x22, .int .u8 x23, .int .u8 x24, .int .u8 x25, .int .u8 x26, .int .u8 x27, .int .u8 x28, .int .u8 x29, .int .u8 x30, .int .u8 x31] (fun _ => True) (fun _ => False) rfl rfl ?aP (fun _ hk => hk.elim) ?aF ?aO ?aB ?aS ?aL ?_; (case aP => exact ⟨rfl, rfl⟩); (case aB => exact HB3.out); (case aF => exact fun _ _ => trivial); (case aO => exact HR3.out); (case aS => exact HB3.out.size); (case aL => have := HL.out; have := LS.out; rw [List.length_take]; omega); intro v1 w4 ho hb hg hat; rw [← ES.out] at ho; have HR4 := Aside0.mk ho; have HB4 := Aside0.mk hb; clear ho hb hg hat HR3 HB3))
      go_roundg (l.length - i - 1)
      case measure => have := hi.out; omega
      case rel => exact ⟨i + 1, by push_cast; rfl, ⟨by have := hi.out; omega⟩, HR4, HB4⟩
    · obtain rfl : i = l.length := by have := hi.out; omega
      have hR := HR.out
      rw [List.take_of_length_le (by rw [LS.out]; exact Nat.le_refl _), HSS.out] at hR
      obtain ⟨inner, ho⟩ := Kd.R_own hR
      have hrd := Kd.R_reads hR
      obtain ⟨A', c', hv, hle, hC⟩ := hrd
      rcases ho.2 with ⟨h0, _⟩ | ⟨g, cap, cur, hv2, hg, r⟩
      · have := HP.out
        rw [hv] at h0
        simp only [Value.slice.injEq, List.length_map] at h0
        omega
      · rw [hv2] at hv
        cases hv
        subst hv2
        have UC := Aside0.mk (runlike_calls A c l g 0 c' _ (Kd.C_below HA.out HB.out) hC HL.out)
        have lf := eq_false (show ¬ (l.length : Int) < (l.length : Int) by omega)
        try rw [List.length_map]
        go_wp2_with fail
        refine UC.out.mono ?_
        rintro e w5 ⟨rfl, hd⟩
        go_wp2_with fail
        go_ret
        obtain ⟨n, rfl⟩ := hd
        exact ⟨rfl, pw_below_drewN HB.out n⟩
end Go.Proofs.Ytoljjgabgdifbaa.H
