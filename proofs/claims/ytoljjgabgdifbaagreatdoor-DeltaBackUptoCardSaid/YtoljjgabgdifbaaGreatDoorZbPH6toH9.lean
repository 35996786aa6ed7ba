/- Parts of the proof: H6, H7, H8, H9. -/
import Derived.Test.YtoljjgabgdifbaaGreatDoorZbPH4toH5
import Derived.Test.YtoljjgabgdifbaaGreatDoorZbShelf
import Derived.Shelf.Strings.Builder1
namespace Go.Proofs.YtoljjgabgdifbaaGreatDoor.H
open Go.RowKit Go.Proofs.YtoljjgabgdifbaaGreatDoorW.PrintWords Go.Proofs.YtoljjgabgdifbaaGreatDoorW.PrintLast
set_option linter.unusedVariables false
set_option linter.unusedSimpArgs false

section
variable {P : Program}
theorem row_loads {oi : Oper} {a : Act} (ty : TypeId) (x : Operand) (ho : oi.op = .load ty x) (g : Nat) (hx : a.eval x = .pointer (some ⟨g, 0, none⟩)) {w : World} {t : TypeId} {cs : Array Value} (hg : Blk w g t cs)
    {d : TypeDesc} (hu : P.underlying ty = some d) (hd : (match d with | .struct _ | .array _ _ => true | _ => false) = true) (hi : (P.info? ty).map (·.size) = some cs.size) :
    (execOp a.eval oi).run P w = .ok (.value (.agg cs)) w := by
  unfold execOp
  simp only [ho, hx, Instr.loadAt, Instr.sureAddr, Sem.run_bind, Sem.run_pure, Result.andThen_ok, run_loadVar_row w g t ty cs (0, 0) d hg hu hd hi]
theorem row_stores {oi : Oper} {a : Act} (ty : TypeId) (x y : Operand) (ho : oi.op = .store ty x y) (g : Nat) (cells : Array Value) (hx : a.eval x = .pointer (some ⟨g, 0, none⟩)) (hy : a.eval y = .agg cells)
    {w : World} {t : TypeId} {old : Array Value} (hg : Blk w g t old) (hi : (P.info? ty).map (·.size) = some cells.size) (hold : old.size = cells.size) (h1 : cells.all (·.oneCell') = true) :
    (execOp a.eval oi).run P w = .ok .skip (w.setRow g cells) := by
  unfold execOp
  simp only [ho, hx, hy, Instr.storeAt, Instr.sureAddr, Sem.run_bind, Sem.run_pure, Result.andThen_ok, run_storeVar_row w g t ty old cells hg hi hold h1]
end
theorem nums_all (vs : List Int) : (nums .u32 vs).toArray.all (·.oneCell') = true := by
  rw [Array.all_eq_true_iff_forall_mem]
  intro v hv
  exact nums_one vs v (by simpa using hv)
/-- What is behind the text, up to a whole block. -/
def pad (s : ByteArray) : ByteArray := s ++ ⟨(Lib.repeatL [0] (64 - s.size)).toArray⟩
theorem repeat_len : ∀ n : Nat, (Lib.repeatL ([0] : List UInt8) n).length = n
  | 0 => rfl
  | n + 1 => by simp [Lib.repeatL, repeat_len n]
theorem pad_size {s : ByteArray} (h : s.size ≤ 64) : (pad s).size = 64 := by
  unfold pad
  rw [ByteArray.size_append]
  show s.size + (Lib.repeatL [0] (64 - s.size)).toArray.size = 64
  rw [List.size_toArray, repeat_len]
  omega
/-- The eight numbers behind all bytes. -/
def digH (h : List Int) (s : ByteArray) (n : Int) : List Int :=
  if 64 < s.size then digH (takeL h (s.extract 0 64) (IntKind.u64.wrap (n + 64)) false) (s.extract 64 s.size) (IntKind.u64.wrap (n + 64))
  else takeL h (pad s) (IntKind.u64.wrap (n + s.size)) true
termination_by s.size
decreasing_by
  rw [ByteArray.size_extract]
  omega
def outAt (h : List Int) (i : Nat) : Int := h.getD (i / 4) 0 / 2 ^ (8 * (i % 4)) % 256
/-- The first k bytes of the digest, behind them nothing. -/
def outL (h : List Int) (k : Nat) : List Int := (List.range 32).map fun i => if i < k then outAt h i else 0
theorem outL_len (h : List Int) (k : Nat) : (outL h k).length = 32 := by simp [outL]
theorem outL_set (h : List Int) (k : Nat) (hk : k < 32) : (outL h k).set k (outAt h k) = outL h (k + 1) := by
  apply List.ext_getElem (by simp [outL])
  intro i h1 h2
  simp only [outL, List.getElem_set, List.getElem_map, List.getElem_range]
  by_cases e : k = i
  · subst e
    simp
  · rw [if_neg e]
    have : (i < k) ↔ (i < k + 1) := by omega
    simp only [this]
/-- What stands while blocks are taken in. -/
structure D1 (w0 w : World) (h : List Int) : Prop where
  below : Below w0.heap.size w0 w
  b0 : Blk w w0.heap.size 89 (nums .u32 h).toArray
  b1 : Blk w (w0.heap.size + 1) 28 (nums .u8 (outL [] 0)).toArray
theorem D1.far {w0 w w' : World} {h : List Int} (X : D1 w0 w h) (hb : Below w.drew.heap.size w.drew w') : D1 w0 w' h :=
  ⟨below_then (below_drew X.below) (by have := X.b0.lt; show w0.heap.size ≤ w.heap.size; omega) hb, X.b0.drew.below hb X.b0.lt, X.b1.drew.below hb X.b1.lt⟩
theorem D1.far2 {w0 w w' : World} {h : List Int} (X : D1 w0 w h) (hb : Below w.heap.size w w') : D1 w0 w' h :=
  ⟨below_then X.below (by have := X.b0.lt; omega) hb, X.b0.below hb X.b0.lt, X.b1.below hb X.b1.lt⟩
theorem D1.set_ {w0 w : World} {h h' : List Int} (X : D1 w0 w h) : D1 w0 (w.setRow w0.heap.size (nums .u32 h').toArray) h' :=
  ⟨below_setRow' X.below (Nat.le_refl _) _, X.b0.setRow_ _, X.b1.setRow_far (by omega) _⟩

theorem run_index_nums {R : List Int} (k : Nat) (hk : k < 8) (hR : R.length = 8) (w : World) : (Instr.index 89 (.agg (nums .u32 R).toArray) (.int .i64 (k : Int))).run Tryz.prog w = .ok (.int .u32 (R.getD k 0)) w := by
  have h : (nums .u32 R).toArray[k]? = some (.int .u32 (R.getD k 0)) := nums_get (by omega)
  unfold Instr.index part
  simp only [asIntOf, Sem.run_bind, Sem.run_pure, Result.andThen_ok, run_underlying Tryz.underlying89]
  rw [if_pos (by omega)]
  simp only [Sem.run_bind, Sem.run_pure, Result.andThen_ok, Tryz.isAgg88, Tryz.sizeOf88, Int.toNat_natCast, Nat.mul_one, h]
  rfl
theorem nums_set8 (vs : List Int) (i : Nat) (y : Int) : (nums .u8 vs).toArray.setIfInBounds i (.int .u8 y) = (nums .u8 (vs.set i y)).toArray := by
  simp [nums, List.map_set]
theorem nums_get8 {vs : List Int} {i : Nat} (h : i < vs.length) : (nums .u8 vs).toArray[i]? = some (.int .u8 (vs.getD i 0)) := by
  simp [nums, List.getElem?_map, List.getElem?_eq_getElem h, List.getD_eq_getElem?_getD]
theorem nums_one8 (vs : List Int) : ∀ v ∈ nums .u8 vs, v.oneCell' = true := by
  intro v hv
  simp only [nums, List.mem_map] at hv
  obtain ⟨x, _, rfl⟩ := hv
  rfl
theorem nums_all8 (vs : List Int) : (nums .u8 vs).toArray.all (·.oneCell') = true := by
  rw [Array.all_eq_true_iff_forall_mem]
  intro v hv
  exact nums_one8 vs v (by simpa using hv)
/-- What stands while the digest's bytes are written. -/
structure D2 (w0 w : World) (go : Nat) (R : List Int) (k : Nat) : Prop where
  below : Below w0.heap.size w0 w
  b1 : Blk w (w0.heap.size + 1) 28 (nums .u8 (outL [] 0)).toArray
  b2 : Blk w go 28 (nums .u8 (outL R k)).toArray
  lt : w0.heap.size + 1 < go
theorem D1.start {w0 w : World} {h R : List Int} (X : D1 w0 w h) : D2 w0 (w.alloc (.cells (nums .u8 (outL R 0)).toArray 28)) w.heap.size R 0 :=
  ⟨X.below.alloc (by have := X.b0.lt; omega) _, X.b1.alloc _, Blk.new _ _ _, X.b1.lt⟩
theorem D2.step {w0 w : World} {go : Nat} {R : List Int} {k : Nat} (X : D2 w0 w go R k) (hk : k < 32) : D2 w0 (w.setCell ⟨go, k, none⟩ (.int .u8 (outAt R k))) go R (k + 1) := by
  have l := X.lt
  refine ⟨X.below.setCell (by simp; omega) _, X.b1.far (by simp; omega) _, ?_, X.lt⟩
  have z := X.b2.set_ k (.int .u8 (outAt R k))
  rw [nums_set8, outL_set _ _ hk] at z
  exact z

set_option maxRecDepth 100000 in
set_option maxHeartbeats 20000000 in
theorem digest_calls (h0 : List Int) (s0 : ByteArray) (w : World) (hh : h0.length = 8) :
    Calls Tryz.prog 45 #[.agg (nums .u32 h0).toArray, .string s0] w fun e w' => e = .returned (.agg (nums .u8 (outL (digH h0 s0 0) 32)).toArray) ∧ Below w.heap.size w w' := by
  have X0 : D1 w ((w.alloc (.cells (nums .u32 h0).toArray 89)).alloc (.cells (nums .u8 (outL [] 0)).toArray 28)) h0 :=
    ⟨((Below.refl w.heap.size w).alloc (Nat.le_refl _) _).alloc (by rw [sz]; omega) _, (Blk.new w 89 _).alloc _, by have z := Blk.new (w.alloc (.cells (nums .u32 h0).toArray 89)) 28 (nums .u8 (outL [] 0)).toArray; rw [sz] at z; exact z⟩
  generalize hw0 : ((w.alloc (.cells (nums .u32 h0).toArray 89)).alloc (.cells (nums .u8 (outL [] 0)).toArray 28)) = w0 at X0
  have HW0 := Aside0.mk hw0
  have X0 := Aside0.mk X0
  clear hw0
  obtain ⟨R, hR⟩ : ∃ R, R = digH h0 s0 0 := ⟨_, rfl⟩
  rw [← hR]
  have HH0 := Aside0.mk hh
  have HR0 := Aside0.mk hR
  clear hh hR
  go_enter Tryz.func45, Tryz.ntmps45
  go_wp2
  rw [show ((w.alloc (.cells (nums .u32 h0).toArray 89)).alloc (.cells #[.int .u8 0, .int .u8 0, .int .u8 0, .int .u8 0, .int .u8 0, .int .u8 0, .int .u8 0, .int .u8 0, .int .u8 0, .int .u8 0, .int .u8 0, .int .u8 0, .int .u8 0, .int .u8 0, .int .u8 0, .int .u8 0, .int .u8 0, .int .u8 0, .int .u8 0, .int .u8 0, .int .u8 0, .int .u8 0, .int .u8 0, .int .u8 0, .int .u8 0, .int .u8 0, .int .u8 0, .int .u8 0, .int .u8 0, .int .u8 0, .int .u8 0, .int .u8 0] 28)) = w0 from HW0.out]
  go_loopg [1, 5] (s0.size) (fun gk v1 v5 wr => ∃ (h : List Int) (s : ByteArray) (n : Int), v1 = .string s ∧ v5 = .int .u64 n ∧ Aside0 (gk = s.size) ∧ Aside0 (h.length = 8) ∧ Aside0 (R = digH h s n) ∧ Aside0 (D1 w wr h))
  case atStart => exact ⟨h0, s0, 0, rfl, rfl, ⟨rfl⟩, HH0, HR0, X0⟩
  case round =>
    clear X0 HW0 HH0 HR0
    obtain ⟨h, s, n, rfl, rfl, hk, HH, HR, X⟩ := hrel
    by_cases hlt : 64 < s.size
    · have hb1 := eq_true (show (64 : Int) < (s.size : Int) by omega)
      have hb2 := eq_true (show (64 : Int) ≤ (s.size : Int) by omega)
      have HE : (s.extract 0 64).size = 64 := by rw [ByteArray.size_extract]; omega
      go_wp2_with fail
      refine start_ (n := 9) (S := fun w' => Blk w' w.heap.size 89 (nums .u32 h).toArray) (ds := [7]) #[false, false, false, false, false, false, false, false, false] (by kernel_rfl) rfl rfl (X.out.b0.drew) (fun hHeld => ?_)
      refine pure_ (i := 1) (N := some 16) (v := ?_) (a' := ?_) #[false, true, false, false, false, false, false, false, false] rfl rfl (by kernel_rfl) (fun _ _ _ h => h) (Or.inl ⟨by rfl, ?_⟩) ?_ ?_
      rotate_left
      · intro w'
        go_simp
        with_reducible rfl
      rotate_left
      · simp only [Act.put, List.setIfInBounds_toArray, List.set_cons_zero, List.set_cons_succ, i64_w, i32_w]
        rfl
      refine pure_ (i := 2) (N := some 17) (v := ?_) (a' := ?_) #[false, true, true, false, false, false, false, false, false] rfl rfl (by kernel_rfl) (fun _ _ _ h => h) (Or.inl ⟨by rfl, ?_⟩) ?_ ?_
      rotate_left
      · intro w'
        go_simp
        with_reducible rfl
      rotate_left
      · simp only [Act.put, List.setIfInBounds_toArray, List.set_cons_zero, List.set_cons_succ, i64_w, i32_w]
        rfl
      refine pure_ (i := 3) (N := some 18) (v := ?_) (a' := ?_) #[false, true, true, true, false, false, false, false, false] rfl rfl (by kernel_rfl) (fun _ _ _ h => h) (Or.inl ⟨by rfl, ?_⟩) ?_ ?_
      rotate_left
      · intro w'
        go_simp
        with_reducible rfl
      rotate_left
      · simp only [Act.put, List.setIfInBounds_toArray, List.set_cons_zero, List.set_cons_succ, i64_w, i32_w]
        rfl
      refine pure_ (i := 5) (N := some 20) (v := ?_) (a' := ?_) #[false, true, true, true, false, true, false, false, false] rfl rfl (by kernel_rfl) (fun _ _ _ h => h) (Or.inl ⟨by rfl, ?_⟩) ?_ ?_
      rotate_left
      · intro w'
        go_simp
        with_reducible rfl
      rotate_left
      · simp only [Act.put, List.setIfInBounds_toArray, List.set_cons_zero, List.set_cons_succ, i64_w, i32_w]
        rfl
      refine pure_ (i := 6) (N := some 21) (v := ?_) (a' := ?_) #[false, true, true, true, false, true, true, false, false] rfl rfl (by kernel_rfl) (fun _ _ _ h => h) (Or.inl ⟨by rfl, ?_⟩) ?_ ?_
      rotate_left
      · intro w'
        go_simp
        with_reducible rfl
      rotate_left
      · simp only [Act.put, List.setIfInBounds_toArray, List.set_cons_zero, List.set_cons_succ, i64_w, i32_w]
        rfl
      refine take_ (i := 0) (N := some 15) (v := ?_) (a' := ?_) #[true, true, true, true, false, true, true, false, false] rfl rfl (by kernel_rfl) (fun _ _ _ h => h) (Or.inl ⟨by rfl, ?_⟩) hHeld ?_ ?_
      rotate_left
      · intro w' s0
        refine row_loads 89 (.tmp 2) ?_ w.heap.size ?_ s0 Tryz.underlying89 ?_ ?_
        · rfl
        · rfl
        · rfl
        · rw [List.size_toArray, nums_length, HH.out]; kernel_rfl
      rotate_left
      · simp only [Act.put, List.setIfInBounds_toArray, List.set_cons_zero, List.set_cons_succ, i64_w, i32_w]
        rfl
      refine one_ (i := 4) (N := some 19) #[true, true, true, true, true, true, true, false, false] rfl rfl (by kernel_rfl) (by decide) (fun K hK => ?_)
      refine goes_ Tryz.func53 (by kernel_rfl) rfl #[.agg (nums .u32 h).toArray, .string (s.extract 0 64), .int .u64 (IntKind.u64.wrap (n + 64)), .bool false] (by rfl) rfl rfl (by simp only [List.map_toArray, List.map_cons, List.map_nil]; rfl) ?_
      with_reducible refine (take_calls h (s.extract 0 64) (IntKind.u64.wrap (n + 64)) false wr.drew HH.out HE).mono ?_
      rintro e w3 ⟨rfl, hb⟩
      refine ⟨_, rfl, ?_⟩
      have XB := Aside0.mk (X.out.far hb)
      clear hb
      refine hK.out _ _ (XB.out.b0) (fun hHeld => ?_)
      clear hK K
      refine norm_ (a' := ?_) ?_ ?_
      rotate_left
      · show Act.put _ (some 19) _ = _
        simp only [Act.put, List.setIfInBounds_toArray, List.set_cons_zero, List.set_cons_succ, i64_w, i32_w]
        rfl
      refine last_ (i := 7) (N := none) #[true, true, true, true, true, true, true, true, false] rfl rfl (by kernel_rfl) (by decide) (fun K hK => ?_)
      refine skip_ (w1 := w3.setRow w.heap.size (nums .u32 (takeL h (s.extract 0 64) (IntKind.u64.wrap (n + 64)) false)).toArray) (by rfl) rfl ?_ ?_
      · exact row_stores 89 _ _ rfl w.heap.size _ rfl rfl XB.out.b0 (by rw [List.size_toArray, nums_length, takeL_len]; kernel_rfl) (by rw [List.size_toArray, nums_length, HH.out, List.size_toArray, nums_length, takeL_len]) (nums_all _)
      refine hK.out _ _ ?_
      clear hK K
      refine pure_ (i := 8) (N := some 1) (v := ?_) (a' := ?_) #[true, true, true, true, true, true, true, true, true] rfl rfl (by kernel_rfl) (fun _ _ _ h => h) (Or.inl ⟨by rfl, ?_⟩) ?_ ?_
      rotate_left
      · intro w'
        go_simp
        with_reducible rfl
      rotate_left
      · simp only [Act.put, List.setIfInBounds_toArray, List.set_cons_zero, List.set_cons_succ, i64_w, i32_w]
        rfl
      refine done_ (by kernel_rfl) ?_

      have XS := Aside0.mk (XB.out.set_ (h' := takeL h (s.extract 0 64) (IntKind.u64.wrap (n + 64)) false))
      clear hHeld
      go_wp2_with fail
      go_roundg (s.extract 64 s.size).size
      case measure => have := hk.out; rw [ByteArray.size_extract]; omega
      case rel =>
        refine ⟨takeL h (s.extract 0 64) (IntKind.u64.wrap (n + 64)) false, s.extract 64 s.size, IntKind.u64.wrap (n + 64), rfl, rfl, ⟨rfl⟩, ⟨takeL_len _ _ _ _⟩, ⟨?_⟩, XS⟩
        have e := HR.out
        rw [digH, if_pos hlt] at e
        exact e
    · have hb1 := eq_false (show ¬ (64 : Int) < (s.size : Int) by omega)
      have hb2 : IntKind.i64.wrap (64 - (s.size : Int)) = ((64 - s.size : Nat) : Int) := by rw [IntWalk.i64_in _ (by omega)]; omega
      have hb3 := eq_false (show ¬ 9223372036854775807 < s.size + (Lib.repeatL [0] (64 - s.size)).length by rw [repeat_len]; omega)
      have HP := pad_size (s := s) (by omega)
      go_wp2_with fail
      refine start_ (n := 10) (S := fun w' => Blk w' w.heap.size 89 (nums .u32 h).toArray) (ds := [9]) #[false, false, false, false, false, false, false, false, false, false] (by kernel_rfl) rfl rfl (X.out.b0.drew) (fun hHeld => ?_)
      refine pure_ (i := 1) (N := some 28) (v := ?_) (a' := ?_) #[false, true, false, false, false, false, false, false, false, false] rfl rfl (by kernel_rfl) (fun _ _ _ h => h) (Or.inl ⟨by rfl, ?_⟩) ?_ ?_
      rotate_left
      · intro w'
        go_simp
        with_reducible rfl
      rotate_left
      · simp only [Act.put, List.setIfInBounds_toArray, List.set_cons_zero, List.set_cons_succ, i64_w, i32_w]
        rfl
      refine pure_ (i := 2) (N := some 29) (v := ?_) (a' := ?_) #[false, true, true, false, false, false, false, false, false, false] rfl rfl (by kernel_rfl) (fun _ _ _ h => h) (Or.inl ⟨by rfl, ?_⟩) ?_ ?_
      rotate_left
      · intro w'
        go_simp
        with_reducible rfl
      rotate_left
      · simp only [Act.put, List.setIfInBounds_toArray, List.set_cons_zero, List.set_cons_succ, i64_w, i32_w]
        rfl
      refine pure_ (i := 3) (N := some 30) (v := ?_) (a' := ?_) #[false, true, true, true, false, false, false, false, false, false] rfl rfl (by kernel_rfl) (fun _ _ _ h => h) (Or.inl ⟨by rfl, ?_⟩) ?_ ?_
      rotate_left
      · intro w'
        go_simp
        with_reducible rfl
      rotate_left
      · simp only [Act.put, List.setIfInBounds_toArray, List.set_cons_zero, List.set_cons_succ, i64_w, i32_w]
        rfl
      refine pure_ (i := 4) (N := some 31) (v := ?_) (a' := ?_) #[false, true, true, true, true, false, false, false, false, false] rfl rfl (by kernel_rfl) (fun _ _ _ h => h) (Or.inl ⟨by rfl, ?_⟩) ?_ ?_
      rotate_left
      · intro w'
        go_simp
        with_reducible rfl
      rotate_left
      · simp only [Act.put, List.setIfInBounds_toArray, List.set_cons_zero, List.set_cons_succ, i64_w, i32_w]
        rfl
      refine pure_ (i := 7) (N := some 34) (v := ?_) (a' := ?_) #[false, true, true, true, true, false, false, true, false, false] rfl rfl (by kernel_rfl) (fun _ _ _ h => h) (Or.inl ⟨by rfl, ?_⟩) ?_ ?_
      rotate_left
      · intro w'
        go_simp
        with_reducible rfl
      rotate_left
      · simp only [Act.put, List.setIfInBounds_toArray, List.set_cons_zero, List.set_cons_succ, i64_w, i32_w]
        rfl
      refine take_ (i := 0) (N := some 27) (v := ?_) (a' := ?_) #[true, true, true, true, true, false, false, true, false, false] rfl rfl (by kernel_rfl) (fun _ _ _ h => h) (Or.inl ⟨by rfl, ?_⟩) hHeld ?_ ?_
      rotate_left
      · intro w' s0
        refine row_loads 89 (.tmp 2) ?_ w.heap.size ?_ s0 Tryz.underlying89 ?_ ?_
        · rfl
        · rfl
        · rfl
        · rw [List.size_toArray, nums_length, HH.out]; kernel_rfl
      rotate_left
      · simp only [Act.put, List.setIfInBounds_toArray, List.set_cons_zero, List.set_cons_succ, i64_w, i32_w]
        rfl
      refine one_ (i := 5) (N := some 32) #[true, true, true, true, true, true, false, true, false, false] rfl rfl (by kernel_rfl) (by decide) (fun K hK => ?_)
      refine goes_ Tryz.func54 (by kernel_rfl) rfl #[.string ⟨#[0]⟩, .int .i64 ((64 - s.size : Nat) : Int)] (by rfl) rfl rfl (by simp only [List.map_toArray, List.map_cons, List.map_nil]; rfl) ?_
      with_reducible refine (Tryz.strings_Repeat ⟨#[0]⟩ (64 - s.size) wr.drew (by omega) (by rw [show (⟨#[0]⟩ : ByteArray).size = 1 from rfl]; omega)).mono ?_
      rintro e w3 ⟨rfl, hb⟩
      refine ⟨_, rfl, ?_⟩
      have XB := Aside0.mk (X.out.far hb)
      clear hb
      refine hK.out _ _ (XB.out.b0) (fun hHeld => ?_)
      clear hK K
      refine norm_ (a' := ?_) ?_ ?_
      rotate_left
      · show Act.put _ (some 32) _ = _
        simp only [Act.put, List.setIfInBounds_toArray, List.set_cons_zero, List.set_cons_succ, i64_w, i32_w]
        rfl
      refine pure_ (i := 6) (N := some 33) (v := ?_) (a' := ?_) #[true, true, true, true, true, true, true, true, false, false] rfl rfl (by kernel_rfl) (fun _ _ _ h => h) (Or.inl ⟨by rfl, ?_⟩) ?_ ?_
      rotate_left
      · intro w'
        go_simp
        with_reducible rfl
      rotate_left
      · simp only [Act.put, List.setIfInBounds_toArray, List.set_cons_zero, List.set_cons_succ, i64_w, i32_w]
        rfl
      refine one_ (i := 8) (N := some 35) #[true, true, true, true, true, true, true, true, true, false] rfl rfl (by kernel_rfl) (by decide) (fun K hK => ?_)
      refine goes_ Tryz.func53 (by kernel_rfl) rfl #[.agg (nums .u32 h).toArray, .string (pad s), .int .u64 (IntKind.u64.wrap (n + s.size)), .bool true] (by rfl) rfl rfl (by simp only [List.map_toArray, List.map_cons, List.map_nil]; rfl) ?_
      with_reducible refine (take_calls h (pad s) (IntKind.u64.wrap (n + s.size)) true _ HH.out HP).mono ?_
      rintro e w4 ⟨rfl, hb⟩
      refine ⟨_, rfl, ?_⟩
      have XC := Aside0.mk (XB.out.far2 hb)
      clear hb
      refine hK.out _ _ (XC.out.b0) (fun hHeld => ?_)
      clear hK K
      refine norm_ (a' := ?_) ?_ ?_
      rotate_left
      · show Act.put _ (some 35) _ = _
        simp only [Act.put, List.setIfInBounds_toArray, List.set_cons_zero, List.set_cons_succ, i64_w, i32_w]
        rfl
      refine last_ (i := 9) (N := none) #[true, true, true, true, true, true, true, true, true, true] rfl rfl (by kernel_rfl) (by decide) (fun K hK => ?_)
      refine skip_ (w1 := w4.setRow w.heap.size (nums .u32 (takeL h (pad s) (IntKind.u64.wrap (n + s.size)) true)).toArray) (by rfl) rfl ?_ ?_
      · exact row_stores 89 _ _ rfl w.heap.size _ rfl rfl XC.out.b0 (by rw [List.size_toArray, nums_length, takeL_len]; kernel_rfl) (by rw [List.size_toArray, nums_length, HH.out, List.size_toArray, nums_length, takeL_len]) (nums_all _)
      refine hK.out _ _ ?_
      clear hK K
      refine done_ (by kernel_rfl) ?_

      have hR : takeL h (pad s) (IntKind.u64.wrap (n + s.size)) true = R := by
        have e := HR.out
        rw [digH, if_neg hlt] at e
        exact e.symm
      have XS := XC.out.set_ (h' := takeL h (pad s) (IntKind.u64.wrap (n + s.size)) true)
      rw [hR] at XS ⊢
      have LR : Aside0 (R.length = 8) := ⟨by rw [← hR]; exact takeL_len _ _ _ _⟩
      generalize hwz : w4.setRow w.heap.size (nums .u32 R).toArray = wz at XS ⊢
      clear hHeld hwz XC XB X hR HR HH hk hlt hb1 hb2 hb3 HP
      have Y : Aside0 (D2 w (wz.alloc (.cells (nums .u8 (outL R 0)).toArray 28)) wz.heap.size R 0) := ⟨XS.start⟩
      have B0 := XS.b0.alloc (.cells (nums .u8 (outL R 0)).toArray 28)
      generalize hwy : wz.alloc (.cells (nums .u8 (outL R 0)).toArray 28) = wy at Y B0
      have HWY := Aside0.mk hwy
      have B0 := Aside0.mk B0
      clear hwy XS
      go_wp2_with (first | (refine wpList_load_row rfl 89 (.tmp 2) rfl w.heap.size rfl 89 _ (0, 0) _ (by rw [show (wz.alloc (.cells #[.int .u8 0, .int .u8 0, .int .u8 0, .int .u8 0, .int .u8 0, .int .u8 0, .int .u8 0, .int .u8 0, .int .u8 0, .int .u8 0, .int .u8 0, .int .u8 0, .int .u8 0, .int .u8 0, .int .u8 0, .int .u8 0, .int .u8 0, .int .u8 0, .int .u8 0, .int .u8 0, .int .u8 0, .int .u8 0, .int .u8 0, .int .u8 0, .int .u8 0, .int .u8 0, .int .u8 0, .int .u8 0, .int .u8 0, .int .u8 0, .int .u8 0, .int .u8 0] 28)) = wy from HWY.out]; exact B0.out) Tryz.underlying89 rfl (by rw [List.size_toArray, nums_length, LR.out]; kernel_rfl) ?_))
      rw [show (wz.alloc (.cells #[.int .u8 0, .int .u8 0, .int .u8 0, .int .u8 0, .int .u8 0, .int .u8 0, .int .u8 0, .int .u8 0, .int .u8 0, .int .u8 0, .int .u8 0, .int .u8 0, .int .u8 0, .int .u8 0, .int .u8 0, .int .u8 0, .int .u8 0, .int .u8 0, .int .u8 0, .int .u8 0, .int .u8 0, .int .u8 0, .int .u8 0, .int .u8 0, .int .u8 0, .int .u8 0, .int .u8 0, .int .u8 0, .int .u8 0, .int .u8 0, .int .u8 0, .int .u8 0] 28)) = wy from HWY.out]
      clear HWY B0
      generalize wz.heap.size = go at Y ⊢
      go_loopg [37] 8 (fun gk v37 wr => ∃ k : Nat, v37 = .int .i64 k ∧ Aside0 (k + gk = 8) ∧ Aside0 (D2 w wr go R (4 * k)))
      case atStart => exact ⟨0, rfl, ⟨rfl⟩, Y⟩
      case round =>
        clear Y
        obtain ⟨k, rfl, hk, Y⟩ := hrel
        by_cases hk8 : k < 8
        · have b1 := eq_true (show (k : Int) < 8 by omega)
          have hix := run_index_nums k hk8 LR.out
          have hx := Aside0.mk (show outAt R (4 * k) = outAt R (4 * k) from rfl)
          have hf : ∀ j : Nat, j < 4 → outAt R (4 * k + j) = R.getD k 0 / 2 ^ (8 * j) % 256 := by
            intro j hj
            unfold outAt
            rw [show (4 * k + j) / 4 = k by omega, show (4 * k + j) % 4 = j by omega]
          have HF := Aside0.mk hf
          clear hf hx
          generalize R.getD k 0 = x at hix HF
          go_wp2_with fail
          go_loopg [41] 4 (fun gi v41 wi => ∃ j : Nat, v41 = .int .i64 j ∧ Aside0 (j + gi = 4) ∧ Aside0 (D2 w wi go R (4 * k + j)))
          case atStart => exact ⟨0, rfl, ⟨rfl⟩, Y⟩
          case round =>
            clear Y
            obtain ⟨j, rfl, hj, Y⟩ := hrel
            by_cases hj4 : j < 4
            · have c1 := eq_true (show (j : Int) < 4 by omega)
              have c2 : IntKind.i64.wrap (4 * (k : Int)) = 4 * (k : Int) := IntWalk.i64_in _ (by omega)
              have c3 : IntKind.i64.wrap (4 * (k : Int) + j) = 4 * (k : Int) + j := IntWalk.i64_in _ (by omega)
              have c4 : IntKind.i64.wrap (8 * (j : Int)) = 8 * (j : Int) := IntWalk.i64_in _ (by omega)
              have f1 := Y.out.b2.frozen (4 * k + j)
              have q1 : wr.cell? ⟨go, 4 * k + j, none⟩ = some (.int .u8 ((outL R (4 * k + j)).getD (4 * k + j) 0)) := (Y.out.b2.cell (4 * k + j)).trans (nums_get8 (by rw [outL_len]; omega))
              have c5 := eq_true (show 4 * (k : Int) + j < 32 by omega)
              have c6 := eq_true (show 0 ≤ 4 * (k : Int) + j by omega)
              have c7 : (4 * (k : Int) + j).toNat = 4 * k + j := by omega
              have YS := Aside0.mk (Y.out.step (by omega))
              go_wp2_with fail
              go_roundg (3 - j)
              case measure => have := hj.out; omega
              case rel =>
                have z := YS.out
                rw [HF.out j hj4] at z
                exact ⟨j + 1, by go_num, ⟨by have := hj.out; omega⟩, ⟨z⟩⟩
            · obtain rfl : j = 4 := by have := hj.out; omega
              clear hj4 hj
              go_wp2_with fail
              go_roundg (7 - k)
              case measure => have := hk.out; omega
              case rel => exact ⟨k + 1, by go_num, ⟨by have := hk.out; omega⟩, Y⟩
        · obtain rfl : k = 8 := by have := hk.out; omega
          have Z := Y.out
          clear hk8 hk Y
          have b2 := Aside0.mk Z.b2
          have b1 := Aside0.mk Z.b1
          go_wp2_with (first | (refine wpList_load_row rfl 28 (.tmp 6) rfl go rfl 28 _ (0, 0) _ b2.out Tryz.underlying28 rfl (by rw [List.size_toArray, nums_length, outL_len]; kernel_rfl) ?_) | (refine wpList_store_row rfl 28 (.tmp 4) (.tmp 56) rfl (w.heap.size + 1) _ rfl rfl 28 _ b1.out (by rw [List.size_toArray, nums_length, outL_len]; kernel_rfl) (by rw [List.size_toArray, nums_length, outL_len, List.size_toArray, nums_length, outL_len]) (nums_all8 _) ?_))
          exact bodyPost_ret (results_cell_row (p := 4) (ty := 28) rfl _ _ (w.heap.size + 1) 28 _ (0, 0) _ rfl (Z.b1.setRow_ _) Tryz.underlying28 rfl (by rw [List.size_toArray, nums_length, outL_len]; kernel_rfl)) rfl ⟨rfl, below_setRow' Z.below (by omega) _⟩
end Go.Proofs.YtoljjgabgdifbaaGreatDoor.H

namespace Go.Proofs.YtoljjgabgdifbaaGreatDoor.H
open Go.RowKit Go.Proofs.YtoljjgabgdifbaaGreatDoorW.PrintWords Go.Proofs.YtoljjgabgdifbaaGreatDoorW.PrintLast
set_option linter.unusedVariables false
set_option linter.unusedSimpArgs false

/-- The eight numbers at the beginning of a digest without a key. -/
def sumH : List Int := eightL.set 0 (Go.bits .xor .u32 1779033703 16842784)
/-- The digest of a text, byte by byte. -/
def sumL (s : ByteArray) : List Int := outL (digH sumH s 0) 32
theorem sumL_len (s : ByteArray) : (sumL s).length = 32 := outL_len _ _

set_option maxRecDepth 100000 in
set_option maxHeartbeats 20000000 in
theorem sum_calls (bk o c : Nat) (s : ByteArray) (w : World) (hcell : w.cell? ⟨bk, o, none⟩ = some (.string s)) (hbk : bk < w.heap.size) (hs : s.size ≤ 140737488355328) (hc : 1 ≤ c) :
    Calls Tryz.prog 31 #[.slice (some ⟨bk, o, none⟩) 1 c] w fun e w' => e = .returned (.agg (nums .u8 (sumL s)).toArray) ∧ Below w.heap.size w w' := by
  have HC := Aside0.mk hcell
  clear hcell
  have B1 := Blk.new w 28 (nums .u8 (outL [] 0)).toArray
  have W1 := (Below.refl w.heap.size w).alloc (Nat.le_refl _) (.cells (nums .u8 (outL [] 0)).toArray 28)
  generalize hw1 : (w.alloc (.cells (nums .u8 (outL [] 0)).toArray 28)) = w1 at B1 W1
  have HW1 := Aside0.mk hw1
  have B1 := Aside0.mk B1
  have W1 := Aside0.mk W1
  clear hw1
  go_enter Tryz.func31, Tryz.ntmps31
  go_wp2_with (rw [show (w.alloc (.cells #[.int .u8 0, .int .u8 0, .int .u8 0, .int .u8 0, .int .u8 0, .int .u8 0, .int .u8 0, .int .u8 0, .int .u8 0, .int .u8 0, .int .u8 0, .int .u8 0, .int .u8 0, .int .u8 0, .int .u8 0, .int .u8 0, .int .u8 0, .int .u8 0, .int .u8 0, .int .u8 0, .int .u8 0, .int .u8 0, .int .u8 0, .int .u8 0, .int .u8 0, .int .u8 0, .int .u8 0, .int .u8 0, .int .u8 0, .int .u8 0, .int .u8 0, .int .u8 0] 28)) = w1 from HW1.out]; (with_reducible refine (eight_calls' _).mono ?_); rintro e w' ⟨rfl, hb⟩; have BE := Aside0.mk hb; clear hb)
  have B2 := Blk.new w' 89 (nums .u32 sumH).toArray
  have G2 := (B1.out.below BE.out B1.out.lt).alloc (.cells (nums .u32 sumH).toArray 89)
  have W2 := (below_then W1.out (by have := W1.out.size; omega) BE.out).alloc (by have := W1.out.size; have := BE.out.size; omega) (.cells (nums .u32 sumH).toArray 89)
  rw [show w'.alloc (.cells #[.int .u32 (Go.bits .xor .u32 1779033703 16842784), .int .u32 3144134277, .int .u32 1013904242, .int .u32 2773480762, .int .u32 1359893119, .int .u32 2600822924, .int .u32 528734635, .int .u32 1541459225] 89) = w'.alloc (.cells (nums .u32 sumH).toArray 89) from rfl]
  generalize w'.alloc (.cells (nums .u32 sumH).toArray 89) = w2 at B2 G2 W2 ⊢
  generalize w'.heap.size = g at B2 ⊢
  have B2 := Aside0.mk B2
  have B1 := Aside0.mk G2
  have W2 := Aside0.mk W2
  clear HW1 W1 BE G2
  have HJ : Aside0 (Calls Tryz.prog 46 #[.slice (some ⟨bk, o, none⟩) 1 c, .string ⟨#[]⟩] w2.drew fun e w' => e = .returned (.string s) ∧ Below w2.drew.heap.size w2.drew w') := by
    have z := Tryz.strings_Join bk o c [s] ⟨#[]⟩ w2.drew (fun j x hx => ?_) (by have := W2.out.size; show bk < w2.heap.size; omega) (by simp) hc (by simpa [Lib.join] using hs)
    · exact ⟨by simpa [Lib.join] using z⟩
    · match j with
      | 0 =>
        obtain rfl : s = x := by simpa using hx
        exact (W2.out.cell (p := ⟨bk, o, none⟩) hbk).trans HC.out
      | j + 1 => simp at hx
  refine start_ (n := 5) (S := fun w' => Blk w' g 89 (nums .u32 sumH).toArray) (ds := [4]) #[false, false, false, false, false] (by kernel_rfl) rfl rfl (B2.out.drew) (fun hHeld => ?_)
  refine pure_ (i := 1) (N := some 10) (v := ?_) (a' := ?_) #[false, true, false, false, false] rfl rfl (by kernel_rfl) (fun _ _ _ h => h) (Or.inl ⟨by rfl, ?_⟩) ?_ ?_
  rotate_left
  · intro w'
    go_simp
    with_reducible rfl
  rotate_left
  · simp only [Act.put, List.setIfInBounds_toArray, List.set_cons_zero, List.set_cons_succ, i64_w, i32_w]
    rfl
  refine take_ (i := 0) (N := some 9) (v := ?_) (a' := ?_) #[true, true, false, false, false] rfl rfl (by kernel_rfl) (fun _ _ _ h => h) (Or.inl ⟨by rfl, ?_⟩) hHeld ?_ ?_
  rotate_left
  · intro w' s0
    refine row_loads 89 (.tmp 3) ?_ g ?_ s0 Tryz.underlying89 ?_ ?_
    · rfl
    · rfl
    · rfl
    · rfl
  rotate_left
  · simp only [Act.put, List.setIfInBounds_toArray, List.set_cons_zero, List.set_cons_succ, i64_w, i32_w]
    rfl
  refine one_ (i := 2) (N := some 11) #[true, true, true, false, false] rfl rfl (by kernel_rfl) (by decide) (fun K hK => ?_)
  refine goes_ Tryz.func46 (by kernel_rfl) rfl #[.slice (some ⟨bk, o, none⟩) 1 c, .string ⟨#[]⟩] (by rfl) rfl rfl (by simp only [List.map_toArray, List.map_cons, List.map_nil]; rfl) ?_
  with_reducible refine (HJ.out).mono ?_
  rintro e w3 ⟨rfl, hb⟩
  refine ⟨_, rfl, ?_⟩
  have B3 := Aside0.mk (B2.out.drew.below hb B2.out.lt)
  have W3 := Aside0.mk (below_then (below_drew W2.out) (by have := W2.out.size; show w.heap.size ≤ w2.heap.size; omega) hb)
  have G3 := Aside0.mk (B1.out.drew.below hb B1.out.lt)
  clear hb
  refine hK.out _ _ (B3.out) (fun hHeld => ?_)
  clear hK K
  refine norm_ (a' := ?_) ?_ ?_
  rotate_left
  · show Act.put _ (some 11) _ = _
    simp only [Act.put, List.setIfInBounds_toArray, List.set_cons_zero, List.set_cons_succ, i64_w, i32_w]
    rfl
  refine one_ (i := 3) (N := some 12) #[true, true, true, true, false] rfl rfl (by kernel_rfl) (by decide) (fun K hK => ?_)
  refine goes_ Tryz.func45 (by kernel_rfl) rfl #[.agg (nums .u32 sumH).toArray, .string s] (by rfl) rfl rfl (by simp only [List.map_toArray, List.map_cons, List.map_nil]; rfl) ?_
  with_reducible refine (digest_calls sumH s w3 rfl).mono ?_
  rintro e w4 ⟨rfl, hb⟩
  refine ⟨_, rfl, ?_⟩
  have B4 := Aside0.mk (B3.out.below hb B3.out.lt)
  have W4 := Aside0.mk (below_then W3.out (by have := W3.out.size; omega) hb)
  have G4 := Aside0.mk (G3.out.below hb G3.out.lt)
  clear hb
  refine hK.out _ _ (B4.out) (fun hHeld => ?_)
  clear hK K
  refine norm_ (a' := ?_) ?_ ?_
  rotate_left
  · show Act.put _ (some 12) _ = _
    simp only [Act.put, List.setIfInBounds_toArray, List.set_cons_zero, List.set_cons_succ, i64_w, i32_w]
    rfl
  refine last_ (i := 4) (N := none) #[true, true, true, true, true] rfl rfl (by kernel_rfl) (by decide) (fun K hK => ?_)
  refine skip_ (w1 := w4.setRow w.heap.size (nums .u8 (sumL s)).toArray) (by rfl) rfl ?_ ?_
  · exact row_stores 28 _ _ rfl w.heap.size _ rfl rfl G4.out (by unfold sumL; rw [List.size_toArray, nums_length, outL_len]; kernel_rfl) (by unfold sumL; rw [List.size_toArray, nums_length, outL_len, List.size_toArray, nums_length, outL_len]) (nums_all8 _)
  refine hK.out _ _ ?_
  clear hK K
  refine done_ (by kernel_rfl) ?_

  clear hHeld
  go_wp2_with fail
  exact bodyPost_ret (results_cell_row (p := 2) (ty := 28) rfl _ _ w.heap.size 28 _ (0, 0) _ rfl (G4.out.setRow_ _) Tryz.underlying28 rfl (by unfold sumL; rw [List.size_toArray, nums_length, outL_len]; kernel_rfl)) rfl ⟨rfl, below_setRow' W4.out (Nat.le_refl _) _⟩
end Go.Proofs.YtoljjgabgdifbaaGreatDoor.H

namespace Go.Proofs.YtoljjgabgdifbaaGreatDoor.H
open Go.RowKit Go.Proofs.YtoljjgabgdifbaaGreatDoorW.PrintWords Go.Proofs.YtoljjgabgdifbaaGreatDoorW.PrintLast
set_option linter.unusedVariables false
set_option linter.unusedSimpArgs false

set_option maxHeartbeats 1000000 in
set_option maxRecDepth 100000 in
theorem copyCheck_used (b : Nat) (w : World) (h0 : w.cell? ⟨b, 0, none⟩ = some (.pointer (some ⟨b, 0, none⟩))) :
    Calls Tryz.prog 47 #[.pointer (some ⟨b, 0, none⟩)] w fun e w' => e = .returned (.tuple #[]) ∧ w' = w := by
  obtain ⟨j, hj, _⟩ := Option.map_eq_some_iff.1 Tryz.Builder_Extra_169.sizeBuilder
  go_enter Tryz.func47, Tryz.ntmps47
  go_wp2
  rw [Lib.run_neq_ptr_same w _ Tryz.underlying69 hj]
  go_wp2
  go_end0
  exact ⟨rfl, rfl⟩

set_option maxHeartbeats 1000000 in
set_option maxRecDepth 100000 in
theorem copyCheck_fresh (b : Nat) (w : World) (h0 : w.cell? ⟨b, 0, none⟩ = some (.pointer none)) (hsh : w.shape? b = some (71, 2)) (hfz : w.frozen? ⟨b, 0, none⟩ = false) :
    Calls Tryz.prog 47 #[.pointer (some ⟨b, 0, none⟩)] w fun e w' => e = .returned (.tuple #[]) ∧ w' = w.setCell ⟨b, 0, none⟩ (.pointer (some ⟨b, 0, none⟩)) := by
  obtain ⟨j, hj, hjs⟩ := Option.map_eq_some_iff.1 Tryz.Builder_Extra_169.sizeBuilder
  have hlies : liesAt Tryz.prog Tryz.prog.depth 71 (2 / Tryz.prog.cellsOf 71) 0 71 1 = true := by kernel_rfl
  go_enter Tryz.func47, Tryz.ntmps47
  go_wp2
  rw [Lib.run_to_unsafe w ⟨b, 0, none⟩ Tryz.underlying69 Tryz.underlying101 hj (by rw [hjs]; decide) hsh (Nat.zero_lt_succ 1)]
  simp only [Result.andThen]
  rw [Oper.upon_value]
  go_wp2
  rw [run_callFunc_extern Tryz.func56 (by kernel_rfl) (by kernel_rfl) (by kernel_rfl) (e := Extern.AbiNoEscape.same) (by kernel_rfl)]
  rw [Lib.run_noEscape]
  simp only [Result.andThen]
  rw [Oper.upon_value]
  go_wp2
  rw [Lib.run_from_unsafe w ⟨b, 0, none⟩ Tryz.underlying101 Tryz.underlying69 hj hsh hlies]
  simp only [Result.andThen]
  rw [Oper.upon_value]
  go_wp2
  go_end0
  exact ⟨rfl, rfl⟩

theorem copyCheck_calls (B b : Nat) (bs : List Value) (w : World) (h : Lib.IsBuilder 71 5 B b bs w) :
    Calls Tryz.prog 47 #[.pointer (some ⟨b, 0, none⟩)] w fun e w' => e = .returned (.tuple #[]) ∧ (Lib.BuilderAt 71 5 B b (.pointer (some ⟨b, 0, none⟩)) bs w' ∧ Below B w w' ∧ ∀ k, k ≠ b → w'.heap[k]? = w.heap[k]?) := by
  rcases h with h | h
  · refine (copyCheck_fresh b w h.cell0 h.shape h.frozen0).mono ?_
    rintro e w' ⟨rfl, rfl⟩
    exact ⟨rfl, h.used _, (Below.refl B w).setCell (p := ⟨b, 0, none⟩) h.1 _, fun k hk => Below.heap_setCell _ _ _ _ (by simpa using hk)⟩
  · refine (copyCheck_used b w h.cell0).mono ?_
    rintro e w' ⟨rfl, rfl⟩
    exact ⟨rfl, h, Below.refl B _, fun _ _ => rfl⟩

theorem info5' : (Tryz.prog.info? 5).map (fun i => (i.zero, i.size, i.bytes)) = some (some (.int .u8 0), 1, 1) := by kernel_rfl

set_option maxHeartbeats 2000000 in
set_option maxRecDepth 100000 in
theorem writeString_calls (B b : Nat) (bs : List Value) (s : ByteArray) (w : World) (h : Lib.IsBuilder 71 5 B b bs w) (hlen : bs.length + s.size ≤ 140737488355328) (hBw : B ≤ w.heap.size) :
    Calls Tryz.prog 36 #[.pointer (some ⟨b, 0, none⟩), .string s] w fun e w' => e = .returned (.tuple #[.int .i64 s.size, .nilIface]) ∧ (Lib.BuilderAt 71 5 B b (.pointer (some ⟨b, 0, none⟩)) (bs ++ Lib.strCells s) w' ∧ Below B w w') := by
  obtain ⟨i0, hi, hz0, hz1, hz2⟩ := info_parts info5'
  go_enter Tryz.func36, Tryz.ntmps36
  go_wp2_with ((with_reducible refine (copyCheck_calls B b bs _ h).mono ?_))
  rintro e w1 ⟨rfl, h1, hb1, _⟩
  obtain ⟨hB, v, hbk, hown, hne⟩ := h1
  have c0 : w1.cell? ⟨b, 0, none⟩ = some (.pointer (some ⟨b, 0, none⟩)) := by rw [Lib.cell_of_heap hbk]; rfl
  have c1 : w1.cell? ⟨b, 1, none⟩ = some v := by rw [Lib.cell_of_heap hbk]; rfl
  go_wp2_with (at_builtin; refine Lib.wpList_append_own_string _ rfl _ _ 52 9 rfl B 5 i0 Tryz.underlying52 Tryz.underlying9 hi hz0 hz1 hz2 _ _ _ rfl hown s rfl ?c3 ?c4 ?c5 ?_)
  case c3 => unfold maxLen; omega
  case c4 => omega
  case c5 => have := hb1.size; omega
  intro v' w2 hown' hgrow _
  have hlt : b < w1.heap.size := by
    rcases Nat.lt_or_ge b w1.heap.size with h' | h'
    · exact h'
    · simp [Array.getElem?_eq_none h'] at hbk
  have hb2 : w2.heap[b]? = some (.cells #[.pointer (some ⟨b, 0, none⟩), v] 71 (0, 0)) := by
    rw [hgrow.block b hlt (fun e => hne e.symm)]
    exact hbk
  have d0 : w2.cell? ⟨b, 0, none⟩ = some (.pointer (some ⟨b, 0, none⟩)) := by rw [Lib.cell_of_heap hb2]; rfl
  have d1 : w2.cell? ⟨b, 1, none⟩ = some v := by rw [Lib.cell_of_heap hb2]; rfl
  have f1 : w2.frozen? ⟨b, 1, none⟩ = false := Lib.frozen_of_heap hb2 1
  obtain ⟨ao, n', cap, rfl⟩ : ∃ ao n' cap, v' = .slice ao n' cap := by
    rcases hown'.2 with ⟨hv, _⟩ | ⟨g, cap, cur, hv, _⟩
    · exact ⟨_, _, _, hv⟩
    · exact ⟨_, _, _, hv⟩
  go_wp2
  go_ret2
  refine ⟨rfl, ?_, ?_⟩
  · exact Lib.BuilderAt.put (T := 71) (e := 5) hB hb2 (bs' := bs ++ Lib.strCells s) (by simpa [Lib.strCells_length] using hown') (by decide)
  · exact (hb1.grown hgrow (by have := hb1.size; omega) (fun k hk => (hown.lt k hk).1)).setCell (p := ⟨b, 1, none⟩) hB _

set_option maxHeartbeats 2000000 in
set_option maxRecDepth 100000 in
theorem write_calls (B b : Nat) (bs : List Value) (g c : Nat) (cs : List Value) (w : World) (h : Lib.IsBuilder 71 5 B b bs w) (hlen : bs.length + cs.length ≤ 140737488355328) (hBw : B ≤ w.heap.size)
    (hcs : ∀ j u, cs[j]? = some u → w.cell? ⟨g, j, none⟩ = some u) (hone : ∀ u ∈ cs, u.oneCell' = true) (hg : g ≠ b) :
    Calls Tryz.prog 34 #[.pointer (some ⟨b, 0, none⟩), .slice (some ⟨g, 0, none⟩) cs.length c] w fun e w' => e = .returned (.tuple #[.int .i64 cs.length, .nilIface]) ∧ (Lib.BuilderAt 71 5 B b (.pointer (some ⟨b, 0, none⟩)) (bs ++ cs) w' ∧ Below B w w') := by
  obtain ⟨i0, hi, hz0, hz1, hz2⟩ := info_parts info5'
  go_enter Tryz.func34, Tryz.ntmps34
  go_wp2_with ((with_reducible refine (copyCheck_calls B b bs _ h).mono ?_))
  rintro e w1 ⟨rfl, h1, hb1, hfar⟩
  obtain ⟨hB, v, hbk, hown, hne⟩ := h1
  have c0 : w1.cell? ⟨b, 0, none⟩ = some (.pointer (some ⟨b, 0, none⟩)) := by rw [Lib.cell_of_heap hbk]; rfl
  have c1 : w1.cell? ⟨b, 1, none⟩ = some v := by rw [Lib.cell_of_heap hbk]; rfl
  have hcs1 : ∀ j u, cs[j]? = some u → w1.cell? ⟨g, j, none⟩ = some u := fun j u hj => by
    have e := hfar g hg
    have z := hcs j u hj
    unfold World.cell? at z ⊢
    rw [e]
    exact z
  go_wp2_with (at_builtin; refine wpList_append_own _ rfl _ _ 52 rfl B 5 i0 (.int .u8 0) 1 1 Tryz.underlying52 hi hz0 hz1 hz2 rfl (by decide) _ _ _ rfl hown ⟨g, 0, none⟩ cs.length c cs rfl (by simp) ?c1 ?c2 ?c3 ?c4 ?c5 ?_)
  case c1 =>
    intro j u hj
    have : (⟨g, 0, none⟩ : Addr).add j = ⟨g, j, none⟩ := by unfold Addr.add; split <;> simp_all
    rw [this]
    exact hcs1 j u hj
  case c2 => exact hone
  case c3 => unfold maxLen; omega
  case c4 => omega
  case c5 => have := hb1.size; omega
  intro v' w2 hown' hgrow _
  have hlt : b < w1.heap.size := by
    rcases Nat.lt_or_ge b w1.heap.size with h' | h'
    · exact h'
    · simp [Array.getElem?_eq_none h'] at hbk
  have hb2 : w2.heap[b]? = some (.cells #[.pointer (some ⟨b, 0, none⟩), v] 71 (0, 0)) := by
    rw [hgrow.block b hlt (fun e => hne e.symm)]
    exact hbk
  have d0 : w2.cell? ⟨b, 0, none⟩ = some (.pointer (some ⟨b, 0, none⟩)) := by rw [Lib.cell_of_heap hb2]; rfl
  have d1 : w2.cell? ⟨b, 1, none⟩ = some v := by rw [Lib.cell_of_heap hb2]; rfl
  have f1 : w2.frozen? ⟨b, 1, none⟩ = false := Lib.frozen_of_heap hb2 1
  obtain ⟨ao, n', cap, rfl⟩ : ∃ ao n' cap, v' = .slice ao n' cap := by
    rcases hown'.2 with ⟨hv, _⟩ | ⟨g, cap, cur, hv, _⟩
    · exact ⟨_, _, _, hv⟩
    · exact ⟨_, _, _, hv⟩
  go_wp2
  go_ret2
  refine ⟨rfl, ?_, ?_⟩
  · exact Lib.BuilderAt.put (T := 71) (e := 5) hB hb2 (bs' := bs ++ cs) (by simpa using hown') (by decide)
  · exact (hb1.grown hgrow (by have := hb1.size; omega) (fun k hk => (hown.lt k hk).1)).setCell (p := ⟨b, 1, none⟩) hB _
end Go.Proofs.YtoljjgabgdifbaaGreatDoor.H

namespace Go.Proofs.YtoljjgabgdifbaaGreatDoor.H
open Go.RowKit Go.Proofs.YtoljjgabgdifbaaGreatDoorW.PrintWords Go.Proofs.YtoljjgabgdifbaaGreatDoorW.PrintLast Go.Proofs.YtoljjgabgdifbaaGreatDoorW.PrintMore
section
attribute [local go_sem] max2_int min2_int max_two min_two max_three min_three max_four min_four
set_option linter.unusedVariables false
set_option linter.unusedSimpArgs false
theorem info5 : (Tryz.prog.info? 5).map (fun i => (i.zero, i.size, i.bytes)) = some (some (.int .u8 0), 1, 1) := by kernel_rfl
-- printed by the kit's print.sh
def num_length.l0 : Nat → Int → List Int → Option (List Int)
  | 0, _, _ => none
  | k + 1, x0, x3 => if x0 ≥ 128 then (if x3.length < 140737488355328 then (num_length.l0 k (wrap64 (Int.tdiv x0 128)) (x3 ++ [(((Int.tmod x0 128) % 256) + 128) % 256])) else (none)) else (if x3.length < 140737488355328 then (some (x3 ++ [(x0) % 256])) else (none))
def num_length.f (k : Nat) (a0 : Int) : Option (List Int) := num_length.l0 k a0 ([] : List Int)
set_option maxHeartbeats 8000000 in
set_option maxRecDepth 100000 in
theorem num_length.calls (k : Nat) (a0 : Int) (r : List Int) (w : World) (h : num_length.f k a0 = some r) :
    Calls Tryz.prog 35 #[.int .i64 a0] w fun e w' => ∃ v0_ : Value, e = .returned (v0_) ∧ Kd.R (Kd.int .u8) 5 w' w.heap.size (fun _ => True) v0_ r ∧ Below w.heap.size w w' := by
  have HB := Aside0.mk (Below.refl w.heap.size w)
  have H : (num_length.l0 k a0 ([] : List Int)) = some r := h
  clear h
  have H' := Aside0.mk H
  clear H
  go_enter Tryz.func35, Tryz.ntmps35
  go_wp2
  go_loopg [0, 3] k (fun kq v0 v3 w' => ∃ (x0_1 : Int) (x3_1 : List Int), v0 = .int .i64 x0_1 ∧ Aside0 (num_length.l0 kq x0_1 x3_1 = some r) ∧ Aside0 (kq ≤ k) ∧ Aside0 (Kd.R (Kd.int .u8) 5 w' w.heap.size (fun _ => True) v3 x3_1) ∧ Aside0 (Below w.heap.size w w'))
  case atStart => exact ⟨(a0), (([] : List Int)), (by first | rfl | (simp; done) | (simp [*]; done)), H', ⟨Nat.le_refl _⟩, ⟨by first | exact Kd.R_nil _ _ _ _ _ | exact Kd.N_nil _ _ _ _ _ | exact Kd.V_nil _ _ _ _ _ | exact Kd.Q_nil _ _ _ _ _ | exact Kd.S_nil _ _ _ _ _⟩, ⟨by repeat (first | (with_reducible first | exact HB.out | apply below_alloc | apply pw_below_drewN | apply below_drew1) | exact HB.out)⟩⟩
  case round =>
    clear H'
    obtain ⟨x0_1, x3_1, rfl, HA, HK1, HO_3, HB⟩ := hrel
    cases gk with
    | zero => exact absurd HA.out (by simp [num_length.l0])
    | succ k1 =>
      have H := HA.out
      clear HA
      simp only [num_length.l0] at H
      by_cases c2 : x0_1 ≥ 128
      · rw [if_pos c2] at H
        have c2b0 : decide (128 ≤ x0_1) = true := decide_eq_true c2
        clear c2
        by_cases c3 : x3_1.length < 140737488355328
        · rw [if_pos c3] at H
          have LMc3 := Aside0.mk c3
          clear c3
          obtain ⟨y110, hy110⟩ : ∃ y_ : List Int, y_ = (x3_1 ++ [(((Int.tmod x0_1 128) % 256) + 128) % 256]) := ⟨_, rfl⟩
          replace H : (num_length.l0 k1 (wrap64 (Int.tdiv x0_1 128)) y110) = some r := by first | (rw [hy110]; with_reducible exact H) | (have H2_ := (Option.bind_some _ _).symm.trans H; rw [hy110]; with_reducible exact H2_) | (have H2_ := (Option.bind_some _ _).symm.trans H; with_reducible exact H2_) | with_reducible exact H | (rw [hy110]; exact H) | exact H
          have Ny110 := Aside0.mk hy110
          clear hy110
          have H' := Aside0.mk H
          clear H
          go_wp2_with (first | ((with_reducible refine gate_builtin (b := .append) (xs := #[.tmp 6, .tmp 11]) rfl ?_); at_builtin; refine Kd.R_append (Kd.int .u8) (w0 := w) w.heap.size rfl (.tmp 6) (.tmp 11) 52 5 (.int .u8 0) 1 rfl Tryz.underlying52 info5 rfl (by decide) (by omega) u3 x3_1 ((((Int.tmod x0_1 128) % 256) + 128) % 256) [.int .u8 ((Int.tmod x0_1 128 + 128) % 256)] (fun _ => True) (fun _ => False) rfl rfl ?aP (fun _ hk => hk.elim) ?aF ?aO ?aB ?aS ?aL ?_; (case aP => exact (show ([.int .u8 ((Int.tmod x0_1 128 + 128) % 256)] : List Value) = [.int .u8 ((((Int.tmod x0_1 128) % 256) + 128) % 256)] by rw [Int.emod_add_emod])); (case aB => exact (by repeat (first | (with_reducible first | exact HB.out | apply below_alloc | apply pw_below_drewN | apply below_drew1) | exact HB.out))); (case aF => exact (fun _ _ => trivial)); (case aO => exact (by (with_reducible repeat (first | apply Kd.R_alloc | apply Kd.R_drewN | apply Kd.R_drew)); exact HO_3.out)); (case aS => exact (below_size (by repeat (first | (with_reducible first | exact HB.out | apply below_alloc | apply pw_below_drewN | apply below_drew1) | exact HB.out)))); (case aL => have := LMc3.out; omega); intro v111 w4 ho hb hg hat; rw [← Ny110.out] at ho; have n0_ := Aside0.mk (hb); have n1_ := Aside0.mk (ho); clear HB; clear HO_3; have HB := n0_; have HO112 := n1_; clear n0_ n1_; clear ho hb hg hat))
          go_roundg k1
          case measure => have := HK1.out; omega
          case rel => exact ⟨(wrap64 (Int.tdiv x0_1 128)), (y110), (by first | rfl | (simp; done) | (simp [*]; done)), H', ⟨by have := HK1.out; omega⟩, ⟨by (with_reducible repeat (first | apply Kd.R_alloc | apply Kd.R_drewN | apply Kd.R_drew)); exact HO112.out⟩, ⟨by repeat (first | (with_reducible first | exact HB.out | apply below_alloc | apply pw_below_drewN | apply below_drew1) | exact HB.out)⟩⟩
        · rw [if_neg c3] at H
          exact absurd H (by simp)
      · rw [if_neg c2] at H
        have c2b0 : decide (128 ≤ x0_1) = false := decide_eq_false c2
        clear c2
        by_cases c5 : x3_1.length < 140737488355328
        · rw [if_pos c5] at H
          have LMc5 := Aside0.mk c5
          clear c5
          obtain ⟨y113, hy113⟩ : ∃ y_ : List Int, y_ = (x3_1 ++ [(x0_1) % 256]) := ⟨_, rfl⟩
          replace H : (some y113) = some r := by first | (rw [hy113]; with_reducible exact H) | (have H2_ := (Option.bind_some _ _).symm.trans H; rw [hy113]; with_reducible exact H2_) | (have H2_ := (Option.bind_some _ _).symm.trans H; with_reducible exact H2_) | with_reducible exact H | (rw [hy113]; exact H) | exact H
          have Ny113 := Aside0.mk hy113
          clear hy113
          obtain rfl := Option.some.inj H
          go_wp2_with (first | ((with_reducible refine gate_builtin (b := .append) (xs := #[.tmp 15, .tmp 18]) rfl ?_); at_builtin; refine Kd.R_append (Kd.int .u8) (w0 := w) w.heap.size rfl (.tmp 15) (.tmp 18) 52 5 (.int .u8 0) 1 rfl Tryz.underlying52 info5 rfl (by decide) (by omega) u3 x3_1 ((x0_1) % 256) [.int .u8 ((x0_1) % 256)] (fun _ => True) (fun _ => False) rfl rfl ?aP (fun _ hk => hk.elim) ?aF ?aO ?aB ?aS ?aL ?_; (case aP => exact rfl); (case aB => exact (by repeat (first | (with_reducible first | exact HB.out | apply below_alloc | apply pw_below_drewN | apply below_drew1) | exact HB.out))); (case aF => exact (fun _ _ => trivial)); (case aO => exact (by (with_reducible repeat (first | apply Kd.R_alloc | apply Kd.R_drewN | apply Kd.R_drew)); exact HO_3.out)); (case aS => exact (below_size (by repeat (first | (with_reducible first | exact HB.out | apply below_alloc | apply pw_below_drewN | apply below_drew1) | exact HB.out)))); (case aL => have := LMc5.out; omega); intro v114 w6 ho hb hg hat; rw [← Ny113.out] at ho; have n0_ := Aside0.mk (hb); have n1_ := Aside0.mk (ho); clear HB; clear HO_3; have HB := n0_; have HO115 := n1_; clear n0_ n1_; clear ho hb hg hat))
          go_ret
          exact ⟨_, by first | rfl | (simp [errW_none, errW_some] <;> rfl) | (simp [*, errW_none, errW_some] <;> rfl), by (with_reducible repeat (first | apply Kd.R_alloc | apply Kd.R_drewN | apply Kd.R_drew)); exact HO115.out, by repeat (first | (with_reducible first | exact HB.out | apply below_alloc | apply pw_below_drewN | apply below_drew1) | exact HB.out)⟩
        · rw [if_neg c5] at H
          exact absurd H (by simp)

end
/-- A length's bytes. -/
def lenB (n : Nat) : List UInt8 := if 128 ≤ n then UInt8.ofNat (n % 128 + 128) :: lenB (n / 128) else [UInt8.ofNat n]
/-- A row of texts as bytes. -/
def rowB : List ByteArray → List UInt8
  | [] => []
  | s :: l => lenB s.size ++ s.data.toList ++ rowB l
def ints (l : List UInt8) : List Int := l.map fun b => (b.toNat : Int)
theorem rowB_append (a b : List ByteArray) : rowB (a ++ b) = rowB a ++ rowB b := by
  induction a with
  | nil => rfl
  | cons s l ih => simp [rowB, ih]
theorem len_fuel : ∀ (k n : Nat) (acc : List Int), n < k → n ≤ 140737488355328 → acc.length + (lenB n).length ≤ 140737488355328 → num_length.l0 k n acc = some (acc ++ ints (lenB n)) := by
  intro k
  induction k with
  | zero => intro n acc h; omega
  | succ k ih =>
    intro n acc h hn hl
    rw [num_length.l0]
    by_cases c : 128 ≤ n
    · rw [lenB, if_pos c, List.length_cons] at hl
      rw [if_pos (show (n : Int) ≥ 128 by omega), if_pos (by omega)]
      have e1 : wrap64 (Int.tdiv (n : Int) 128) = ((n / 128 : Nat) : Int) := by
        rw [Int.tdiv_eq_ediv_of_nonneg (by omega)]
        rw [← i64_w, IntWalk.i64_in _ (by omega)]
        omega
      rw [e1, ih (n / 128) _ (by omega) (by omega) (by rw [List.length_append, List.length_singleton]; omega)]
      rw [lenB.eq_def n, if_pos c]
      have e2 : ((Int.tmod (n : Int) 128) % 256 + 128) % 256 = ((UInt8.ofNat (n % 128 + 128)).toNat : Int) := by
        rw [Int.tmod_eq_emod_of_nonneg (by omega), UInt8.toNat_ofNat']
        omega
      rw [e2]
      simp [ints]
    · rw [lenB, if_neg c, List.length_singleton] at hl
      rw [if_neg (show ¬ (n : Int) ≥ 128 by omega), if_pos (by omega), lenB, if_neg c]
      have e2 : (n : Int) % 256 = ((UInt8.ofNat n).toNat : Int) := by
        rw [UInt8.toNat_ofNat']
        omega
      rw [e2]
      simp [ints]
theorem lenB_ne (n : Nat) : lenB n ≠ [] := by
  rw [lenB]
  split <;> simp
theorem length_calls (n : Nat) (w : World) (hn : n ≤ 140737488355328) (hl : (lenB n).length ≤ 140737488355328) :
    Calls Tryz.prog 35 #[.int .i64 (n : Int)] w fun e w' => ∃ g c, e = .returned (.slice (some ⟨g, 0, none⟩) (Lib.byteCells (lenB n)).length c) ∧ (∀ j u, (Lib.byteCells (lenB n))[j]? = some u → w'.cell? ⟨g, j, none⟩ = some u) ∧ w.heap.size ≤ g ∧ Below w.heap.size w w' := by
  refine (num_length.calls (n + 1) n (ints (lenB n)) w (by unfold num_length.f; rw [len_fuel (n + 1) n [] (by omega) hn (by simpa using hl)]; simp)).mono ?_
  rintro e w' ⟨v, rfl, hR, hb⟩
  have ho := Kd.own_of_R hR
  have e1 : encs (Value.int .u8) (ints (lenB n)) = Lib.byteCells (lenB n) := by simp [encs, ints, Lib.byteCells]
  rw [e1] at ho
  have hl0 : (ints (lenB n)).length = (Lib.byteCells (lenB n)).length := by simp [ints, Lib.byteCells]
  rcases ho.2 with ⟨_, h0⟩ | ⟨g, cap, cur, hv, hg, r⟩
  · exact absurd h0 (by simp [ints, lenB_ne])
  · subst hv
    refine ⟨g, cap, by rw [hl0], fun j u hj => ?_, hg, hb⟩
    have z := ho.cells (g := g) rfl j u hj
    have : (⟨g, 0, none⟩ : Addr).add j = ⟨g, j, none⟩ := by unfold Addr.add; split <;> simp_all
    rwa [this] at z
theorem builder_below {T e : TypeId} {B b : Nat} {bs : List Value} {w w' : World} (h : Lib.IsBuilder T e B b bs w) (hb : Below w.heap.size w w') : Lib.IsBuilder T e B b bs w' := by
  have k : ∀ p, Lib.BuilderAt T e B b p bs w → Lib.BuilderAt T e B b p bs w' := by
    rintro p ⟨hB, v, hbk, hown, hne⟩
    have hlt : b < w.heap.size := Lib.BuilderAt.lt ⟨hB, v, hbk, hown, hne⟩
    refine ⟨hB, v, (hb.block b hlt).trans hbk, ?_, hne⟩
    by_cases c : v.ownBlock = none
    · exact hown.kept (row := none) ⟨hb.os, hb.tape, hb.output, hb.size, fun k hk _ => hb.block k hk⟩ (Or.inl c)
    · exact hown.kept (row := none) ⟨hb.os, hb.tape, hb.output, hb.size, fun k hk _ => hb.block k hk⟩ (Or.inr c)
  rcases h with h | h
  · exact Or.inl (k _ h)
  · exact Or.inr (k _ h)
theorem byteCells_one (l : List UInt8) : ∀ u ∈ Lib.byteCells l, u.oneCell' = true := by
  intro u hu
  simp only [Lib.byteCells, List.mem_map] at hu
  obtain ⟨x, _, rfl⟩ := hu
  rfl
theorem builder_lt {T e : TypeId} {B b : Nat} {bs : List Value} {w : World} (h : Lib.IsBuilder T e B b bs w) : b < w.heap.size := by
  rcases h with h | h <;> exact h.lt
theorem byteCells_append (a b : List UInt8) : Lib.byteCells (a ++ b) = Lib.byteCells a ++ Lib.byteCells b := by simp [Lib.byteCells]

set_option maxRecDepth 100000 in
set_option maxHeartbeats 8000000 in
theorem rowOf_calls (A0 : Option Addr) (c0 : Nat) (l0 : List ByteArray) (w : World) (hr0 : Kd.C Kd.string w A0 l0.length l0) (_hc0 : l0.length ≤ c0) (hL : (rowB l0).length ≤ 140737488355328) :
    Calls Tryz.prog 19 #[.slice A0 l0.length c0] w fun e w' => e = .returned (.string ⟨(rowB l0).toArray⟩) ∧ Below w.heap.size w w' := by
  have HR := Aside0.mk hr0
  clear hr0
  have mx := Kd.C_max HR.out
  have I0 := Aside0.mk (Lib.fresh_isBuilder 71 5 w)
  have W0 := Aside0.mk ((Below.refl w.heap.size w).alloc (Nat.le_refl _) (.cells #[.pointer none, .slice none 0 0] 71))
  go_enter Tryz.func19, Tryz.ntmps19
  go_wp2
  go_loopg [8] l0.length (fun gk v8 wr => ∃ i : Nat, v8 = .int .i64 i ∧ Aside0 (i + gk = l0.length) ∧ Aside0 (Lib.IsBuilder 71 5 w.heap.size w.heap.size (Lib.byteCells (rowB (l0.take i))) wr) ∧ Aside0 (Below w.heap.size w wr))
  case atStart => exact ⟨0, rfl, ⟨by omega⟩, I0, W0⟩
  case round =>
    clear I0 W0
    obtain ⟨i, rfl, hi, IB, WB⟩ := hrel
    by_cases hlt : i < l0.length
    · have b1 := eq_true (show (i : Int) < (l0.length : Int) by omega)
      have b2 := eq_true (show (0 : Int) ≤ (i : Int) by omega)
      obtain ⟨ad, eA, hx⟩ := Kd.at_string (Kd.C_below HR.out WB.out) (i : Int) (by omega) (by omega)
      cases eA
      obtain ⟨s, hs⟩ : ∃ s, s = l0[i] := ⟨_, rfl⟩
      have e0 : rdOf ByteArray.empty l0 (i : Int) = s := by simp [rdOf, hs, hlt]
      rw [e0] at hx
      have et : rowB (l0.take (i + 1)) = rowB (l0.take i) ++ lenB s.size ++ s.data.toList := by
        rw [List.take_add_one, rowB_append, List.getElem?_eq_getElem hlt, ← hs]
        simp [rowB]
      have el : (rowB (l0.take i)).length + (lenB s.size).length + s.size ≤ 140737488355328 := by
        have e3 := congrArg List.length (rowB_append (l0.take (i + 1)) (l0.drop (i + 1)))
        rw [List.take_append_drop, et] at e3
        simp only [List.length_append, Array.length_toList] at e3
        have : s.data.size = s.size := rfl
        omega
      rw [Int.toNat_natCast] at hx
      have ET := Aside0.mk et
      clear et e0 hs
      have EL := Aside0.mk el
      clear el
      have LC := Aside0.mk (length_calls s.size wr (by have := EL.out; omega) (by have := EL.out; omega))
      go_wp2_with ((with_reducible refine LC.out.mono ?_); rintro e w1 ⟨g, c, rfl, hcs, hg, hb⟩; have B1 := Aside0.mk (builder_below IB.out hb); have W1 := Aside0.mk (below_then WB.out WB.out.size hb); have C1 := Aside0.mk hcs; have G1 := Aside0.mk hg; clear hcs hg hb)
      go_wp2_with ((with_reducible refine (write_calls w.heap.size w.heap.size (Lib.byteCells (rowB (l0.take i))) g c (Lib.byteCells (lenB s.size)) _ B1.out (by rw [Lib.byteCells_length, Lib.byteCells_length]; have := EL.out; omega) W1.out.size C1.out (byteCells_one _) (by have := G1.out; have := IB.out; have := builder_lt IB.out; omega)).mono ?_); rintro e w2 ⟨rfl, h2, hb⟩; have B2 := Aside0.mk (show Lib.IsBuilder 71 5 w.heap.size w.heap.size (Lib.byteCells (rowB (l0.take i)) ++ Lib.byteCells (lenB s.size)) w2 from Or.inr h2); have W2 := Aside0.mk (W1.out.trans hb); clear h2 hb)
      go_wp2_with ((with_reducible refine (writeString_calls w.heap.size w.heap.size (Lib.byteCells (rowB (l0.take i)) ++ Lib.byteCells (lenB s.size)) s _ B2.out (by rw [List.length_append, Lib.byteCells_length, Lib.byteCells_length]; have := EL.out; omega) W2.out.size).mono ?_); rintro e w3 ⟨rfl, h3, hb⟩; have B3 := Aside0.mk h3; have W3 := Aside0.mk (W2.out.trans hb); clear h3 hb)
      go_wp2_with fail
      go_roundg (l0.length - i - 1)
      case measure => have := hi.out; omega
      case rel =>
        refine ⟨i + 1, by go_num, ⟨by have := hi.out; omega⟩, ⟨Or.inr ?_⟩, W3⟩
        rw [ET.out, byteCells_append, byteCells_append, show Lib.byteCells s.data.toList = Lib.strCells s from rfl]
        exact B3.out
    · obtain rfl : i = l0.length := by have := hi.out; omega
      have b1 := eq_false (show ¬ (l0.length : Int) < (l0.length : Int) by omega)
      have IB := IB.out
      rw [List.take_length] at IB
      go_wp2_with ((with_reducible refine (Tryz.Builder_String_any w.heap.size w.heap.size (rowB l0) _ IB WB.out.size).mono ?_); rintro e w4 ⟨rfl, hb⟩; have W4 := Aside0.mk (WB.out.trans hb); clear hb)
      go_wp2_with fail
      go_ret
      exact ⟨rfl, W4.out⟩
end Go.Proofs.YtoljjgabgdifbaaGreatDoor.H

