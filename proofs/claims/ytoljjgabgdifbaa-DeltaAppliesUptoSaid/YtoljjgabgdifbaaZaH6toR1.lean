/- Layer 2 of the program: the digest of bytes. Layer 2 of the program: the digest of one text. Layer 2's answer: a mixing. -/
import Derived.Test.YtoljjgabgdifbaaZaH4toH5
import Derived.Test.YtoljjgabgdifbaaZaShelf
import Derived.Test.YtoljjgabgdifbaaZaH3
import Derived.IntWalk

namespace Go.Proofs.Ytoljjgabgdifbaa.H
open Go.RowKit Go.Proofs.YtoljjgabgdifbaaW.PrintWords Go.Proofs.YtoljjgabgdifbaaW.PrintLast
set_option linter.unusedVariables false
set_option linter.unusedSimpArgs false

section
variable {P : Program}
theorem row_loads {oi : Oper} {a : Act} (ty : TypeId) (x : Operand) (ho : oi.op = .load ty x) (g : Nat) (hx : a.eval x = .pointer (some ⟨g, 0, none⟩)) {w : World} {t : TypeId} {cs : Array Value} (hg : Blk w g t cs)
    {d : TypeDesc} (hu : P.underlying ty = some d) (hd : (match d with | .struct _ | .array _ _ => true | _ => false) = true) (hi : (P.info? ty).map (·.size) = some cs.size) :
    (execOp a.eval oi).run P w = .ok (.value (.agg cs)) w := by
  unfold execOp
  simp only [ho, hx, Instr.loadAt, Instr.sureAddr, Sem.run_bind, Sem.run_pure, Result.andThen_ok, run_loadVar_row w g t ty cs (0, 0) d hg hu hd hi]
theorem row_stores {oi : Oper} {a : Act} (ty : TypeId) (x y : Operand) (ho : oi.op = .store ty x y) (g : Nat) (cells : Array Value) (hx : a.eval x = .pointer (some ⟨g, 0, none⟩)) (hy : a.eval y = .agg cells)
    {w : World} {t : TypeId} {old : Array Value} (hg : Blk w g t old) (hi : (P.info? ty).map (·.size) = some cells.size) (hold : old.size = cells.size) (h1 : cells.all (·.oneCell') = true) :
    (execOp a.eval oi).run P w = .ok .skip (w.setRow g cells) := by
  unfold execOp
  simp only [ho, hx, hy, Instr.storeAt, Instr.sureAddr, Sem.run_bind, Sem.run_pure, Result.andThen_ok, run_storeVar_row w g t ty old cells hg hi hold h1]
end
theorem nums_all (vs : List Int) : (nums .u32 vs).toArray.all (·.oneCell') = true := by
  rw [Array.all_eq_true_iff_forall_mem]
  intro v hv
  exact nums_one vs v (by simpa using hv)
/-- What is behind the text, up to a whole block. -/
def pad (s : ByteArray) : ByteArray := s ++ ⟨(Lib.repeatL [0] (64 - s.size)).toArray⟩
theorem repeat_len : ∀ n : Nat, (Lib.repeatL ([0] : List UInt8) n).length = n
  | 0 => rfl
  | n + 1 => by simp [Lib.repeatL, repeat_len n]
theorem pad_size {s : ByteArray} (h : s.size ≤ 64) : (pad s).size = 64 := by
  unfold pad
  rw [ByteArray.size_append]
  show s.size + (Lib.repeatL [0] (64 - s.size)).toArray.size = 64
  rw [List.size_toArray, repeat_len]
  omega
/-- The eight numbers behind all bytes. -/
def digH (h : List Int) (s : ByteArray) (n : Int) : List Int :=
  if 64 < s.size then digH (takeL h (s.extract 0 64) (IntKind.u64.wrap (n + 64)) false) (s.extract 64 s.size) (IntKind.u64.wrap (n + 64))
  else takeL h (pad s) (IntKind.u64.wrap (n + s.size)) true
termination_by s.size
decreasing_by
  rw [ByteArray.size_extract]
  omega
def outAt (h : List Int) (i : Nat) : Int := h.getD (i / 4) 0 / 2 ^ (8 * (i % 4)) % 256
/-- The first k bytes of the digest, behind them nothing. -/
def outL (h : List Int) (k : Nat) : List Int := (List.range 32).map fun i => if i < k then outAt h i else 0
theorem outL_len (h : List Int) (k : Nat) : (outL h k).length = 32 := by simp [outL]
theorem outL_set (h : List Int) (k : Nat) (hk : k < 32) : (outL h k).set k (outAt h k) = outL h (k + 1) := by
  apply List.ext_getElem (by simp [outL])
  intro i h1 h2
  simp only [outL, List.getElem_set, List.getElem_map, List.getElem_range]
  by_cases e : k = i
  · subst e
    simp
  · rw [if_neg e]
    have : (i < k) ↔ (i < k + 1) := by omega
    simp only [this]
/-- What stands while blocks are taken in. -/
structure D1 (w0 w : World) (h : List Int) : Prop where
  below : Below w0.heap.size w0 w
  b0 : Blk w w0.heap.size 76 (nums .u32 h).toArray
  b1 : Blk w (w0.heap.size + 1) 29 (nums .u8 (outL [] 0)).toArray
theorem D1.far {w0 w w' : World} {h : List Int} (X : D1 w0 w h) (hb : Below w.drew.heap.size w.drew w') : D1 w0 w' h :=
  ⟨below_then (below_drew X.below) (by have := X.b0.lt; show w0.heap.size ≤ w.heap.size; omega) hb, X.b0.drew.below hb X.b0.lt, X.b1.drew.below hb X.b1.lt⟩
theorem D1.far2 {w0 w w' : World} {h : List Int} (X : D1 w0 w h) (hb : Below w.heap.size w w') : D1 w0 w' h :=
  ⟨below_then X.below (by have := X.b0.lt; omega) hb, X.b0.below hb X.b0.lt, X.b1.below hb X.b1.lt⟩
theorem D1.set_ {w0 w : World} {h h' : List Int} (X : D1 w0 w h) : D1 w0 (w.setRow w0.heap.size (nums .u32 h').toArray) h' :=
  ⟨below_setRow' X.below (Nat.le_refl _) _, X.b0.setRow_ _, X.b1.setRow_far (by omega) _⟩

theorem run_index_nums {R : List Int} (k : Nat) (hk : k < 8) (hR : R.length = 8) (w : World) : (Instr.index 76 (.agg (nums .u32 R).toArray) (.int .i64 (k : Int))).run Try.prog w = .ok (.int .u32 (R.getD k 0)) w := by
  have h : (nums .u32 R).toArray[k]? = some (.int .u32 (R.getD k 0)) := nums_get (by omega)
  unfold Instr.index part
  simp only [asIntOf, Sem.run_bind, Sem.run_pure, Result.andThen_ok, run_underlying Try.underlying76]
  rw [if_pos (by omega)]
  simp only [Sem.run_bind, Sem.run_pure, Result.andThen_ok, Try.isAgg75, Try.sizeOf75, Int.toNat_natCast, Nat.mul_one, h]
  rfl
theorem nums_set8 (vs : List Int) (i : Nat) (y : Int) : (nums .u8 vs).toArray.setIfInBounds i (.int .u8 y) = (nums .u8 (vs.set i y)).toArray := by
  simp [nums, List.map_set]
theorem nums_get8 {vs : List Int} {i : Nat} (h : i < vs.length) : (nums .u8 vs).toArray[i]? = some (.int .u8 (vs.getD i 0)) := by
  simp [nums, List.getElem?_map, List.getElem?_eq_getElem h, List.getD_eq_getElem?_getD]
theorem nums_one8 (vs : List Int) : ∀ v ∈ nums .u8 vs, v.oneCell' = true := by
  intro v hv
  simp only [nums, List.mem_map] at hv
  obtain ⟨x, _, rfl⟩ := hv
  rfl
theorem nums_all8 (vs : List Int) : (nums .u8 vs).toArray.all (·.oneCell') = true := by
  rw [Array.all_eq_true_iff_forall_mem]
  intro v hv
  exact nums_one8 vs v (by simpa using hv)
/-- What stands while the digest's bytes are written. -/
structure D2 (w0 w : World) (go : Nat) (R : List Int) (k : Nat) : Prop where
  below : Below w0.heap.size w0 w
  b1 : Blk w (w0.heap.size + 1) 29 (nums .u8 (outL [] 0)).toArray
  b2 : Blk w go 29 (nums .u8 (outL R k)).toArray
  lt : w0.heap.size + 1 < go
theorem D1.start {w0 w : World} {h R : List Int} (X : D1 w0 w h) : D2 w0 (w.alloc (.cells (nums .u8 (outL R 0)).toArray 29)) w.heap.size R 0 :=
  ⟨X.below.alloc (by have := X.b0.lt; omega) _, X.b1.alloc _, Blk.new _ _ _, X.b1.lt⟩
theorem D2.step {w0 w : World} {go : Nat} {R : List Int} {k : Nat} (X : D2 w0 w go R k) (hk : k < 32) : D2 w0 (w.setCell ⟨go, k, none⟩ (.int .u8 (outAt R k))) go R (k + 1) := by
  have l := X.lt
  refine ⟨X.below.setCell (by simp; omega) _, X.b1.far (by simp; omega) _, ?_, X.lt⟩
  have z := X.b2.set_ k (.int .u8 (outAt R k))
  rw [nums_set8, outL_set _ _ hk] at z
  exact z

set_option maxRecDepth 100000 in
set_option maxHeartbeats 20000000 in
theorem digest_calls (h0 : List Int) (s0 : ByteArray) (w : World) (hh : h0.length = 8) :
    Calls Try.prog 48 #[.agg (nums .u32 h0).toArray, .string s0] w fun e w' => e = .returned (.agg (nums .u8 (outL (digH h0 s0 0) 32)).toArray) ∧ Below w.heap.size w w' := by
  have X0 : D1 w ((w.alloc (.cells (nums .u32 h0).toArray 76)).alloc (.cells (nums .u8 (outL [] 0)).toArray 29)) h0 :=
    ⟨((Below.refl w.heap.size w).alloc (Nat.le_refl _) _).alloc (by rw [sz]; omega) _, (Blk.new w 76 _).alloc _, by have z := Blk.new (w.alloc (.cells (nums .u32 h0).toArray 76)) 29 (nums .u8 (outL [] 0)).toArray; rw [sz] at z; exact z⟩
  generalize hw0 : ((w.alloc (.cells (nums .u32 h0).toArray 76)).alloc (.cells (nums .u8 (outL [] 0)).toArray 29)) = w0 at X0
  have HW0 := Aside0.mk hw0
  have X0 := Aside0.mk X0
  clear hw0
  obtain ⟨R, hR⟩ : ∃ R, R = digH h0 s0 0 := ⟨_, rfl⟩
  rw [← hR]
  have HH0 := Aside0.mk hh
  have HR0 := Aside0.mk hR
  clear hh hR
  go_enter Try.func48, Try.ntmps48
  go_wp2
  rw [show ((w.alloc (.cells (nums .u32 h0).toArray 76)).alloc (.cells #[.int .u8 0, .int .u8 0, .int .u8 0, .int .u8 0, .int .u8 0, .int .u8 0, .int .u8 0, .int .u8 0, .int .u8 0, .int .u8 0, .int .u8 0, .int .u8 0, .int .u8 0, .int .u8 0, .int .u8 0, .int .u8 0, .int .u8 0, .int .u8 0, .int .u8 0, .int .u8 0, .int .u8 0, .int .u8 0, .int .u8 0, .int .u8 0, .int .u8 0, .int .u8 0, .int .u8 0, .int .u8 0, .int .u8 0, .int .u8 0, .int .u8 0, .int .u8 0] 29)) = w0 from HW0.out]
  go_loopg [1, 5] (s0.size) (fun gk v1 v5 wr => ∃ (h : List Int) (s : ByteArray) (n : Int), v1 = .string s ∧ v5 = .int .u64 n ∧ Aside0 (gk = s.size) ∧ Aside0 (h.length = 8) ∧ Aside0 (R = digH h s n) ∧ Aside0 (D1 w wr h))
  case atStart => exact ⟨h0, s0, 0, rfl, rfl, ⟨rfl⟩, HH0, HR0, X0⟩
  case round =>
    clear X0 HW0 HH0 HR0
    obtain ⟨h, s, n, rfl, rfl, hk, HH, HR, X⟩ := hrel
    by_cases hlt : 64 < s.size
    · have hb1 := eq_true (show (64 : Int) < (s.size : Int) by omega)
      have hb2 := eq_true (show (64 : Int) ≤ (s.size : Int) by omega)
      have HE : (s.extract 0 64).size = 64 := by rw [ByteArray.size_extract]; omega
      go_wp2_with fail
      refine start_ (n := 9) (S := fun w' => Blk w' w.heap.size 76 (nums .u32 h).toArray) (ds := [7]) #[false, false, false, false, false, false, false, false, false] (by kernel_rfl) rfl rfl (X.out.b0.drew) (fun hHeld => ?_)
      refine pure_ (i := 1) (N := some 16) (v := ?_) (a' := ?_) #[false, true, false, false, false, false, false, false, false] rfl rfl (by kernel_rfl) (fun _ _ _ h => h) (Or.inl ⟨by rfl, ?_⟩) ?_ ?_
      rotate_left
      · intro w'
        go_simp
        with_reducible rfl
      rotate_left
      · simp only [Act.put, List.setIfInBounds_toArray, List.set_cons_zero, List.set_cons_succ, i64_w, i32_w]
        rfl
      refine pure_ (i := 2) (N := some 17) (v := ?_) (a' := ?_) #[false, true, true, false, false, false, false, false, false] rfl rfl (by kernel_rfl) (fun _ _ _ h => h) (Or.inl ⟨by rfl, ?_⟩) ?_ ?_
      rotate_left
      · intro w'
        go_simp
        with_reducible rfl
      rotate_left
      · simp only [Act.put, List.setIfInBounds_toArray, List.set_cons_zero, List.set_cons_succ, i64_w, i32_w]
        rfl
      refine pure_ (i := 3) (N := some 18) (v := ?_) (a' := ?_) #[false, true, true, true, false, false, false, false, false] rfl rfl (by kernel_rfl) (fun _ _ _ h => h) (Or.inl ⟨by rfl, ?_⟩) ?_ ?_
      rotate_left
      · intro w'
        go_simp
        with_reducible rfl
      rotate_left
      · simp only [Act.put, List.setIfInBounds_toArray, List.set_cons_zero, List.set_cons_succ, i64_w, i32_w]
        rfl
      refine pure_ (i := 5) (N := some 20) (v := ?_) (a' := ?_) #[false, true, true, true, false, true, false, false, false] rfl rfl (by kernel_rfl) (fun _ _ _ h => h) (Or.inl ⟨by rfl, ?_⟩) ?_ ?_
      rotate_left
      · intro w'
        go_simp
        with_reducible rfl
      rotate_left
      · simp only [Act.put, List.setIfInBounds_toArray, List.set_cons_zero, List.set_cons_succ, i64_w, i32_w]
        rfl
      refine pure_ (i := 6) (N := some 21) (v := ?_) (a' := ?_) #[false, true, true, true, false, true, true, false, false] rfl rfl (by kernel_rfl) (fun _ _ _ h => h) (Or.inl ⟨by rfl, ?_⟩) ?_ ?_
      rotate_left
      · intro w'
        go_simp
        with_reducible rfl
      rotate_left
      · simp only [Act.put, List.setIfInBounds_toArray, List.set_cons_zero, List.set_cons_succ, i64_w, i32_w]
        rfl
      refine take_ (i := 0) (N := some 15) (v := ?_) (a' := ?_) #[true, true, true, true, false, true, true, false, false] rfl rfl (by kernel_rfl) (fun _ _ _ h => h) (Or.inl ⟨by rfl, ?_⟩) hHeld ?_ ?_
      rotate_left
      · intro w' s0
        refine row_loads 76 (.tmp 2) ?_ w.heap.size ?_ s0 Try.underlying76 ?_ ?_
        · rfl
        · rfl
        · rfl
        · rw [List.size_toArray, nums_length, HH.out]; kernel_rfl
      rotate_left
      · simp only [Act.put, List.setIfInBounds_toArray, List.set_cons_zero, List.set_cons_succ, i64_w, i32_w]
        rfl
      refine one_ (i := 4) (N := some 19) #[true, true, true, true, true, true, true, false, false] rfl rfl (by kernel_rfl) (by decide) (fun K hK => ?_)
      refine goes_ Try.func58 (by kernel_rfl) rfl #[.agg (nums .u32 h).toArray, .string (s.extract 0 64), .int .u64 (IntKind.u64.wrap (n + 64)), .bool false] (by rfl) rfl rfl (by simp only [List.map_toArray, List.map_cons, List.map_nil]; rfl) ?_
      with_reducible refine (take_calls h (s.extract 0 64) (IntKind.u64.wrap (n + 64)) false wr.drew HH.out HE).mono ?_
      rintro e w3 ⟨rfl, hb⟩
      refine ⟨_, rfl, ?_⟩
      have XB := Aside0.mk (X.out.far hb)
      clear hb
      refine hK.out _ _ (XB.out.b0) (fun hHeld => ?_)
      clear hK K
      refine norm_ (a' := ?_) ?_ ?_
      rotate_left
      · show Act.put _ (some 19) _ = _
        simp only [Act.put, List.setIfInBounds_toArray, List.set_cons_zero, List.set_cons_succ, i64_w, i32_w]
        rfl
      refine last_ (i := 7) (N := none) #[true, true, true, true, true, true, true, true, false] rfl rfl (by kernel_rfl) (by decide) (fun K hK => ?_)
      refine skip_ (w1 := w3.setRow w.heap.size (nums .u32 (takeL h (s.extract 0 64) (IntKind.u64.wrap (n + 64)) false)).toArray) (by rfl) rfl ?_ ?_
      · exact row_stores 76 _ _ rfl w.heap.size _ rfl rfl XB.out.b0 (by rw [List.size_toArray, nums_length, takeL_len]; kernel_rfl) (by rw [List.size_toArray, nums_length, HH.out, List.size_toArray, nums_length, takeL_len]) (nums_all _)
      refine hK.out _ _ ?_
      clear hK K
      refine pure_ (i := 8) (N := some 1) (v := ?_) (a' := ?_) #[true, true, true, true, true, true, true, true, true] rfl rfl (by kernel_rfl) (fun _ _ _ h => h) (Or.inl ⟨by rfl, ?_⟩) ?_ ?_
      rotate_left
      · intro w'
        go_simp
        with_reducible rfl
      rotate_left
      · simp only [Act.put, List.setIfInBounds_toArray, List.set_cons_zero, List.set_cons_succ, i64_w, i32_w]
        rfl
      refine done_ (by kernel_rfl) ?_

      have XS := Aside0.mk (XB.out.set_ (h' := takeL h (s.extract 0 64) (IntKind.u64.wrap (n + 64)) false))
      clear hHeld
      go_wp2_with fail
      go_roundg (s.extract 64 s.size).size
      case measure => have := hk.out; rw [ByteArray.size_extract]; omega
      case rel =>
        refine ⟨takeL h (s.extract 0 64) (IntKind.u64.wrap (n + 64)) false, s.extract 64 s.size, IntKind.u64.wrap (n + 64), rfl, rfl, ⟨rfl⟩, ⟨takeL_len _ _ _ _⟩, ⟨?_⟩, XS⟩
        have e := HR.out
        rw [digH, if_pos hlt] at e
        exact e
    · have hb1 := eq_false (show ¬ (64 : Int) < (s.size : Int) by omega)
      have hb2 : IntKind.i64.wrap (64 - (s.size : Int)) = ((64 - s.size : Nat) : Int) := by rw [IntWalk.i64_in _ (by omega)]; omega
      have hb3 := eq_false (show ¬ 9223372036854775807 < s.size + (Lib.repeatL [0] (64 - s.size)).length by rw [repeat_len]; omega)
      have HP := pad_size (s := s) (by omega)
      go_wp2_with fail
      refine start_ (n := 10) (S := fun w' => Blk w' w.heap.size 76 (nums .u32 h).toArray) (ds := [9]) #[false, false, false, false, false, false, false, false, false, false] (by kernel_rfl) rfl rfl (X.out.b0.drew) (fun hHeld => ?_)
      refine pure_ (i := 1) (N := some 28) (v := ?_) (a' := ?_) #[false, true, false, false, false, false, false, false, false, false] rfl rfl (by kernel_rfl) (fun _ _ _ h => h) (Or.inl ⟨by rfl, ?_⟩) ?_ ?_
      rotate_left
      · intro w'
        go_simp
        with_reducible rfl
      rotate_left
      · simp only [Act.put, List.setIfInBounds_toArray, List.set_cons_zero, List.set_cons_succ, i64_w, i32_w]
        rfl
      refine pure_ (i := 2) (N := some 29) (v := ?_) (a' := ?_) #[false, true, true, false, false, false, false, false, false, false] rfl rfl (by kernel_rfl) (fun _ _ _ h => h) (Or.inl ⟨by rfl, ?_⟩) ?_ ?_
      rotate_left
      · intro w'
        go_simp
        with_reducible rfl
      rotate_left
      · simp only [Act.put, List.setIfInBounds_toArray, List.set_cons_zero, List.set_cons_succ, i64_w, i32_w]
        rfl
      refine pure_ (i := 3) (N := some 30) (v := ?_) (a' := ?_) #[false, true, true, true, false, false, false, false, false, false] rfl rfl (by kernel_rfl) (fun _ _ _ h => h) (Or.inl ⟨by rfl, ?_⟩) ?_ ?_
      rotate_left
      · intro w'
        go_simp
        with_reducible rfl
      rotate_left
      · simp only [Act.put, List.setIfInBounds_toArray, List.set_cons_zero, List.set_cons_succ, i64_w, i32_w]
        rfl
      refine pure_ (i := 4) (N := some 31) (v := ?_) (a' := ?_) #[false, true, true, true, true, false, false, false, false, false] rfl rfl (by kernel_rfl) (fun _ _ _ h => h) (Or.inl ⟨by rfl, ?_⟩) ?_ ?_
      rotate_left
      · intro w'
        go_simp
        with_reducible rfl
      rotate_left
      · simp only [Act.put, List.setIfInBounds_toArray, List.set_cons_zero, List.set_cons_succ, i64_w, i32_w]
        rfl
      refine pure_ (i := 7) (N := some 34) (v := ?_) (a' := ?_) #[false, true, true, true, true, false, false, true, false, false] rfl rfl (by kernel_rfl) (fun _ _ _ h => h) (Or.inl ⟨by rfl, ?_⟩) ?_ ?_
      rotate_left
      · intro w'
        go_simp
        with_reducible rfl
      rotate_left
      · simp only [Act.put, List.setIfInBounds_toArray, List.set_cons_zero, List.set_cons_succ, i64_w, i32_w]
        rfl
      refine take_ (i := 0) (N := some 27) (v := ?_) (a' := ?_) #[true, true, true, true, true, false, false, true, false, false] rfl rfl (by kernel_rfl) (fun _ _ _ h => h) (Or.inl ⟨by rfl, ?_⟩) hHeld ?_ ?_
      rotate_left
      · intro w' s0
        refine row_loads 76 (.tmp 2) ?_ w.heap.size ?_ s0 Try.underlying76 ?_ ?_
        · rfl
        · rfl
        · rfl
        · rw [List.size_toArray, nums_length, HH.out]; kernel_rfl
      rotate_left
      · simp only [Act.put, List.setIfInBounds_toArray, List.set_cons_zero, List.set_cons_succ, i64_w, i32_w]
        rfl
      refine one_ (i := 5) (N := some 32) #[true, true, true, true, true, true, false, true, false, false] rfl rfl (by kernel_rfl) (by decide) (fun K hK => ?_)
      refine goes_ Try.func59 (by kernel_rfl) rfl #[.string ⟨#[0]⟩, .int .i64 ((64 - s.size : Nat) : Int)] (by rfl) rfl rfl (by simp only [List.map_toArray, List.map_cons, List.map_nil]; rfl) ?_
      with_reducible refine (Try.strings_Repeat ⟨#[0]⟩ (64 - s.size) wr.drew (by omega) (by rw [show (⟨#[0]⟩ : ByteArray).size = 1 from rfl]; omega)).mono ?_
      rintro e w3 ⟨rfl, hb⟩
      refine ⟨_, rfl, ?_⟩
      have XB := Aside0.mk (X.out.far hb)
      clear hb
      refine hK.out _ _ (XB.out.b0) (fun hHeld => ?_)
      clear hK K
      refine norm_ (a' := ?_) ?_ ?_
      rotate_left
      · show Act.put _ (some 32) _ = _
        simp only [Act.put, List.setIfInBounds_toArray, List.set_cons_zero, List.set_cons_succ, i64_w, i32_w]
        rfl
      refine pure_ (i := 6) (N := some 33) (v := ?_) (a' := ?_) #[true, true, true, true, true, true, true, true, false, false] rfl rfl (by kernel_rfl) (fun _ _ _ h => h) (Or.inl ⟨by rfl, ?_⟩) ?_ ?_
      rotate_left
      · intro w'
        go_simp
        with_reducible rfl
      rotate_left
      · simp only [Act.put, List.setIfInBounds_toArray, List.set_cons_zero, List.set_cons_succ, i64_w, i32_w]
        rfl
      refine one_ (i := 8) (N := some 35) #[true, true, true, true, true, true, true, true, true, false] rfl rfl (by kernel_rfl) (by decide) (fun K hK => ?_)
      refine goes_ Try.func58 (by kernel_rfl) rfl #[.agg (nums .u32 h).toArray, .string (pad s), .int .u64 (IntKind.u64.wrap (n + s.size)), .bool true] (by rfl) rfl rfl (by simp only [List.map_toArray, List.map_cons, List.map_nil]; rfl) ?_
      with_reducible refine (take_calls h (pad s) (IntKind.u64.wrap (n + s.size)) true _ HH.out HP).mono ?_
      rintro e w4 ⟨rfl, hb⟩
      refine ⟨_, rfl, ?_⟩
      have XC := Aside0.mk (XB.out.far2 hb)
      clear hb
      refine hK.out _ _ (XC.out.b0) (fun hHeld => ?_)
      clear hK K
      refine norm_ (a' := ?_) ?_ ?_
      rotate_left
      · show Act.put _ (some 35) _ = _
        simp only [Act.put, List.setIfInBounds_toArray, List.set_cons_zero, List.set_cons_succ, i64_w, i32_w]
        rfl
      refine last_ (i := 9) (N := none) #[true, true, true, true, true, true, true, true, true, true] rfl rfl (by kernel_rfl) (by decide) (fun K hK => ?_)
      refine skip_ (w1 := w4.setRow w.heap.size (nums .u32 (takeL h (pad s) (IntKind.u64.wrap (n + s.size)) true)).toArray) (by rfl) rfl ?_ ?_
      · exact row_stores 76 _ _ rfl w.heap.size _ rfl rfl XC.out.b0 (by rw [List.size_toArray, nums_length, takeL_len]; kernel_rfl) (by rw [List.size_toArray, nums_length, HH.out, List.size_toArray, nums_length, takeL_len]) (nums_all _)
      refine hK.out _ _ ?_
      clear hK K
      refine done_ (by kernel_rfl) ?_

      have hR : takeL h (pad s) (IntKind.u64.wrap (n + s.size)) true = R := by
        have e := HR.out
        rw [digH, if_neg hlt] at e
        exact e.symm
      have XS := XC.out.set_ (h' := takeL h (pad s) (IntKind.u64.wrap (n + s.size)) true)
      rw [hR] at XS ⊢
      have LR : Aside0 (R.length = 8) := ⟨by rw [← hR]; exact takeL_len _ _ _ _⟩
      generalize hwz : w4.setRow w.heap.size (nums .u32 R).toArray = wz at XS ⊢
      clear hHeld hwz XC XB X hR HR HH hk hlt hb1 hb2 hb3 HP
      have Y : Aside0 (D2 w (wz.alloc (.cells (nums .u8 (outL R 0)).toArray 29)) wz.heap.size R 0) := ⟨XS.start⟩
      have B0 := XS.b0.alloc (.cells (nums .u8 (outL R 0)).toArray 29)
      generalize hwy : wz.alloc (.cells (nums .u8 (outL R 0)).toArray 29) = wy at Y B0
      have HWY := Aside0.mk hwy
      have B0 := Aside0.mk B0
      clear hwy XS
      go_wp2_with (first | (refine wpList_load_row rfl 76 (.tmp 2) rfl w.heap.size rfl 76 _ (0, 0) _ (by rw [show (wz.alloc (.cells #[.int .u8 0, .int .u8 0, .int .u8 0, .int .u8 0, .int .u8 0, .int .u8 0, .int .u8 0, .int .u8 0, .int .u8 0, .int .u8 0, .int .u8 0, .int .u8 0, .int .u8 0, .int .u8 0, .int .u8 0, .int .u8 0, .int .u8 0, .int .u8 0, .int .u8 0, .int .u8 0, .int .u8 0, .int .u8 0, .int .u8 0, .int .u8 0, .int .u8 0, .int .u8 0, .int .u8 0, .int .u8 0, .int .u8 0, .int .u8 0, .int .u8 0, .int .u8 0] 29)) = wy from HWY.out]; exact B0.out) Try.underlying76 rfl (by rw [List.size_toArray, nums_length, LR.out]; kernel_rfl) ?_))
      rw [show (wz.alloc (.cells #[.int .u8 0, .int .u8 0, .int .u8 0, .int .u8 0, .int .u8 0, .int .u8 0, .int .u8 0, .int .u8 0, .int .u8 0, .int .u8 0, .int .u8 0, .int .u8 0, .int .u8 0, .int .u8 0, .int .u8 0, .int .u8 0, .int .u8 0, .int .u8 0, .int .u8 0, .int .u8 0, .int .u8 0, .int .u8 0, .int .u8 0, .int .u8 0, .int .u8 0, .int .u8 0, .int .u8 0, .int .u8 0, .int .u8 0, .int .u8 0, .int .u8 0, .int .u8 0] 29)) = wy from HWY.out]
      clear HWY B0
      generalize wz.heap.size = go at Y ⊢
      go_loopg [37] 8 (fun gk v37 wr => ∃ k : Nat, v37 = .int .i64 k ∧ Aside0 (k + gk = 8) ∧ Aside0 (D2 w wr go R (4 * k)))
      case atStart => exact ⟨0, rfl, ⟨rfl⟩, Y⟩
      case round =>
        clear Y
        obtain ⟨k, rfl, hk, Y⟩ := hrel
        by_cases hk8 : k < 8
        · have b1 := eq_true (show (k : Int) < 8 by omega)
          have hix := run_index_nums k hk8 LR.out
          have hx := Aside0.mk (show outAt R (4 * k) = outAt R (4 * k) from rfl)
          have hf : ∀ j : Nat, j < 4 → outAt R (4 * k + j) = R.getD k 0 / 2 ^ (8 * j) % 256 := by
            intro j hj
            unfold outAt
            rw [show (4 * k + j) / 4 = k by omega, show (4 * k + j) % 4 = j by omega]
          have HF := Aside0.mk hf
          clear hf hx
          generalize R.getD k 0 = x at hix HF
          go_wp2_with fail
          go_loopg [41] 4 (fun gi v41 wi => ∃ j : Nat, v41 = .int .i64 j ∧ Aside0 (j + gi = 4) ∧ Aside0 (D2 w wi go R (4 * k + j)))
          case atStart => exact ⟨0, rfl, ⟨rfl⟩, Y⟩
          case round =>
            clear Y
            obtain ⟨j, rfl, hj, Y⟩ := hrel
            by_cases hj4 : j < 4
            · have c1 := eq_true (show (j : Int) < 4 by omega)
              have c2 : IntKind.i64.wrap (4 * (k : Int)) = 4 * (k : Int) := IntWalk.i64_in _ (by omega)
              have c3 : IntKind.i64.wrap (4 * (k : Int) + j) = 4 * (k : Int) + j := IntWalk.i64_in _ (by omega)
              have c4 : IntKind.i64.wrap (8 * (j : Int)) = 8 * (j : Int) := IntWalk.i64_in _ (by omega)
              have f1 := Y.out.b2.frozen (4 * k + j)
              have q1 : wr.cell? ⟨go, 4 * k + j, none⟩ = some (.int .u8 ((outL R (4 * k + j)).getD (4 * k + j) 0)) := (Y.out.b2.cell (4 * k + j)).trans (nums_get8 (by rw [outL_len]; omega))
              have c5 := eq_true (show 4 * (k : Int) + j < 32 by omega)
              have c6 := eq_true (show 0 ≤ 4 * (k : Int) + j by omega)
              have c7 : (4 * (k : Int) + j).toNat = 4 * k + j := by omega
              have YS := Aside0.mk (Y.out.step (by omega))
              go_wp2_with fail
              go_roundg (3 - j)
              case measure => have := hj.out; omega
              case rel =>
                have z := YS.out
                rw [HF.out j hj4] at z
                exact ⟨j + 1, by go_num, ⟨by have := hj.out; omega⟩, ⟨z⟩⟩
            · obtain rfl : j = 4 := by have := hj.out; omega
              clear hj4 hj
              go_wp2_with fail
              go_roundg (7 - k)
              case measure => have := hk.out; omega
              case rel => exact ⟨k + 1, by go_num, ⟨by have := hk.out; omega⟩, Y⟩
        · obtain rfl : k = 8 := by have := hk.out; omega
          have Z := Y.out
          clear hk8 hk Y
          have b2 := Aside0.mk Z.b2
          have b1 := Aside0.mk Z.b1
          go_wp2_with (first | (refine wpList_load_row rfl 29 (.tmp 6) rfl go rfl 29 _ (0, 0) _ b2.out Try.underlying29 rfl (by rw [List.size_toArray, nums_length, outL_len]; kernel_rfl) ?_) | (refine wpList_store_row rfl 29 (.tmp 4) (.tmp 56) rfl (w.heap.size + 1) _ rfl rfl 29 _ b1.out (by rw [List.size_toArray, nums_length, outL_len]; kernel_rfl) (by rw [List.size_toArray, nums_length, outL_len, List.size_toArray, nums_length, outL_len]) (nums_all8 _) ?_))
          exact bodyPost_ret (results_cell_row (p := 4) (ty := 29) rfl _ _ (w.heap.size + 1) 29 _ (0, 0) _ rfl (Z.b1.setRow_ _) Try.underlying29 rfl (by rw [List.size_toArray, nums_length, outL_len]; kernel_rfl)) rfl ⟨rfl, below_setRow' Z.below (by omega) _⟩
end Go.Proofs.Ytoljjgabgdifbaa.H


namespace Go.Proofs.Ytoljjgabgdifbaa.H
open Go.RowKit Go.Proofs.YtoljjgabgdifbaaW.PrintWords Go.Proofs.YtoljjgabgdifbaaW.PrintLast
set_option linter.unusedVariables false
set_option linter.unusedSimpArgs false

/-- The eight numbers at the beginning of a digest without a key. -/
def sumH : List Int := eightL.set 0 (Go.bits .xor .u32 1779033703 16842784)
/-- The digest of a text, byte by byte. -/
def sumL (s : ByteArray) : List Int := outL (digH sumH s 0) 32
theorem sumL_len (s : ByteArray) : (sumL s).length = 32 := outL_len _ _

set_option maxRecDepth 100000 in
set_option maxHeartbeats 20000000 in
theorem sum_calls (bk o c : Nat) (s : ByteArray) (w : World) (hcell : w.cell? ⟨bk, o, none⟩ = some (.string s)) (hbk : bk < w.heap.size) (hs : s.size ≤ 140737488355328) (hc : 1 ≤ c) :
    Calls Try.prog 36 #[.slice (some ⟨bk, o, none⟩) 1 c] w fun e w' => e = .returned (.agg (nums .u8 (sumL s)).toArray) ∧ Below w.heap.size w w' := by
  have HC := Aside0.mk hcell
  clear hcell
  have B1 := Blk.new w 29 (nums .u8 (outL [] 0)).toArray
  have W1 := (Below.refl w.heap.size w).alloc (Nat.le_refl _) (.cells (nums .u8 (outL [] 0)).toArray 29)
  generalize hw1 : (w.alloc (.cells (nums .u8 (outL [] 0)).toArray 29)) = w1 at B1 W1
  have HW1 := Aside0.mk hw1
  have B1 := Aside0.mk B1
  have W1 := Aside0.mk W1
  clear hw1
  go_enter Try.func36, Try.ntmps36
  go_wp2_with (rw [show (w.alloc (.cells #[.int .u8 0, .int .u8 0, .int .u8 0, .int .u8 0, .int .u8 0, .int .u8 0, .int .u8 0, .int .u8 0, .int .u8 0, .int .u8 0, .int .u8 0, .int .u8 0, .int .u8 0, .int .u8 0, .int .u8 0, .int .u8 0, .int .u8 0, .int .u8 0, .int .u8 0, .int .u8 0, .int .u8 0, .int .u8 0, .int .u8 0, .int .u8 0, .int .u8 0, .int .u8 0, .int .u8 0, .int .u8 0, .int .u8 0, .int .u8 0, .int .u8 0, .int .u8 0] 29)) = w1 from HW1.out]; (with_reducible refine (eight_calls' _).mono ?_); rintro e w' ⟨rfl, hb⟩; have BE := Aside0.mk hb; clear hb)
  have B2 := Blk.new w' 76 (nums .u32 sumH).toArray
  have G2 := (B1.out.below BE.out B1.out.lt).alloc (.cells (nums .u32 sumH).toArray 76)
  have W2 := (below_then W1.out (by have := W1.out.size; omega) BE.out).alloc (by have := W1.out.size; have := BE.out.size; omega) (.cells (nums .u32 sumH).toArray 76)
  rw [show w'.alloc (.cells #[.int .u32 (Go.bits .xor .u32 1779033703 16842784), .int .u32 3144134277, .int .u32 1013904242, .int .u32 2773480762, .int .u32 1359893119, .int .u32 2600822924, .int .u32 528734635, .int .u32 1541459225] 76) = w'.alloc (.cells (nums .u32 sumH).toArray 76) from rfl]
  generalize w'.alloc (.cells (nums .u32 sumH).toArray 76) = w2 at B2 G2 W2 ⊢
  generalize w'.heap.size = g at B2 ⊢
  have B2 := Aside0.mk B2
  have B1 := Aside0.mk G2
  have W2 := Aside0.mk W2
  clear HW1 W1 BE G2
  have HJ : Aside0 (Calls Try.prog 49 #[.slice (some ⟨bk, o, none⟩) 1 c, .string ⟨#[]⟩] w2.drew fun e w' => e = .returned (.string s) ∧ Below w2.drew.heap.size w2.drew w') := by
    have z := Try.strings_Join bk o c [s] ⟨#[]⟩ w2.drew (fun j x hx => ?_) (by have := W2.out.size; show bk < w2.heap.size; omega) (by simp) hc (by simpa [Lib.join] using hs)
    · exact ⟨by simpa [Lib.join] using z⟩
    · match j with
      | 0 =>
        obtain rfl : s = x := by simpa using hx
        exact (W2.out.cell (p := ⟨bk, o, none⟩) hbk).trans HC.out
      | j + 1 => simp at hx
  refine start_ (n := 5) (S := fun w' => Blk w' g 76 (nums .u32 sumH).toArray) (ds := [4]) #[false, false, false, false, false] (by kernel_rfl) rfl rfl (B2.out.drew) (fun hHeld => ?_)
  refine pure_ (i := 1) (N := some 10) (v := ?_) (a' := ?_) #[false, true, false, false, false] rfl rfl (by kernel_rfl) (fun _ _ _ h => h) (Or.inl ⟨by rfl, ?_⟩) ?_ ?_
  rotate_left
  · intro w'
    go_simp
    with_reducible rfl
  rotate_left
  · simp only [Act.put, List.setIfInBounds_toArray, List.set_cons_zero, List.set_cons_succ, i64_w, i32_w]
    rfl
  refine take_ (i := 0) (N := some 9) (v := ?_) (a' := ?_) #[true, true, false, false, false] rfl rfl (by kernel_rfl) (fun _ _ _ h => h) (Or.inl ⟨by rfl, ?_⟩) hHeld ?_ ?_
  rotate_left
  · intro w' s0
    refine row_loads 76 (.tmp 3) ?_ g ?_ s0 Try.underlying76 ?_ ?_
    · rfl
    · rfl
    · rfl
    · rfl
  rotate_left
  · simp only [Act.put, List.setIfInBounds_toArray, List.set_cons_zero, List.set_cons_succ, i64_w, i32_w]
    rfl
  refine one_ (i := 2) (N := some 11) #[true, true, true, false, false] rfl rfl (by kernel_rfl) (by decide) (fun K hK => ?_)
  refine goes_ Try.func49 (by kernel_rfl) rfl #[.slice (some ⟨bk, o, none⟩) 1 c, .string ⟨#[]⟩] (by rfl) rfl rfl (by simp only [List.map_toArray, List.map_cons, List.map_nil]; rfl) ?_
  with_reducible refine (HJ.out).mono ?_
  rintro e w3 ⟨rfl, hb⟩
  refine ⟨_, rfl, ?_⟩
  have B3 := Aside0.mk (B2.out.drew.below hb B2.out.lt)
  have W3 := Aside0.mk (below_then (below_drew W2.out) (by have := W2.out.size; show w.heap.size ≤ w2.heap.size; omega) hb)
  have G3 := Aside0.mk (B1.out.drew.below hb B1.out.lt)
  clear hb
  refine hK.out _ _ (B3.out) (fun hHeld => ?_)
  clear hK K
  refine norm_ (a' := ?_) ?_ ?_
  rotate_left
  · show Act.put _ (some 11) _ = _
    simp only [Act.put, List.setIfInBounds_toArray, List.set_cons_zero, List.set_cons_succ, i64_w, i32_w]
    rfl
  refine one_ (i := 3) (N := some 12) #[true, true, true, true, false] rfl rfl (by kernel_rfl) (by decide) (fun K hK => ?_)
  refine goes_ Try.func48 (by kernel_rfl) rfl #[.agg (nums .u32 sumH).toArray, .string s] (by rfl) rfl rfl (by simp only [List.map_toArray, List.map_cons, List.map_nil]; rfl) ?_
  with_reducible refine (digest_calls sumH s w3 rfl).mono ?_
  rintro e w4 ⟨rfl, hb⟩
  refine ⟨_, rfl, ?_⟩
  have B4 := Aside0.mk (B3.out.below hb B3.out.lt)
  have W4 := Aside0.mk (below_then W3.out (by have := W3.out.size; omega) hb)
  have G4 := Aside0.mk (G3.out.below hb G3.out.lt)
  clear hb
  refine hK.out _ _ (B4.out) (fun hHeld => ?_)
  clear hK K
  refine norm_ (a' := ?_) ?_ ?_
  rotate_left
  · show Act.put _ (some 12) _ = _
    simp only [Act.put, List.setIfInBounds_toArray, List.set_cons_zero, List.set_cons_succ, i64_w, i32_w]
    rfl
  refine last_ (i := 4) (N := none) #[true, true, true, true, true] rfl rfl (by kernel_rfl) (by decide) (fun K hK => ?_)
  refine skip_ (w1 := w4.setRow w.heap.size (nums .u8 (sumL s)).toArray) (by rfl) rfl ?_ ?_
  · exact row_stores 29 _ _ rfl w.heap.size _ rfl rfl G4.out (by unfold sumL; rw [List.size_toArray, nums_length, outL_len]; kernel_rfl) (by unfold sumL; rw [List.size_toArray, nums_length, outL_len, List.size_toArray, nums_length, outL_len]) (nums_all8 _)
  refine hK.out _ _ ?_
  clear hK K
  refine done_ (by kernel_rfl) ?_

  clear hHeld
  go_wp2_with fail
  exact bodyPost_ret (results_cell_row (p := 2) (ty := 29) rfl _ _ w.heap.size 29 _ (0, 0) _ rfl (G4.out.setRow_ _) Try.underlying29 rfl (by unfold sumL; rw [List.size_toArray, nums_length, outL_len]; kernel_rfl)) rfl ⟨rfl, below_setRow' W4.out (Nat.le_refl _) _⟩
end Go.Proofs.Ytoljjgabgdifbaa.H


namespace Go.Proofs.Ytoljjgabgdifbaa.H
open Go.RowKit Go.Proofs.YtoljjgabgdifbaaW.PrintWords Go.Proofs.YtoljjgabgdifbaaW.PrintLast
set_option linter.unusedVariables false
set_option linter.unusedSimpArgs false

theorem or_comm' (k : IntKind) (x y : Int) : Go.bits .or k x y = Go.bits .or k y x := by
  show k.wrap _ = k.wrap _
  simp only [BitVec.or_comm]
theorem turned16 (x : Int) (w : World) : Calls Try.prog 102 #[.int .u32 x, .int .u64 16] w fun e w' => e = .returned (.int .u32 (rot x 65536 65536)) ∧ w' = w := by
  go_enter Try.func102, Try.ntmps102
  go_wp2
  go_ret
  exact ⟨ret_int (or_comm' _ _ _), rfl⟩
theorem turned12 (x : Int) (w : World) : Calls Try.prog 102 #[.int .u32 x, .int .u64 12] w fun e w' => e = .returned (.int .u32 (rot x 1048576 4096)) ∧ w' = w := by
  go_enter Try.func102, Try.ntmps102
  go_wp2
  go_ret
  exact ⟨ret_int (or_comm' _ _ _), rfl⟩
theorem turned8 (x : Int) (w : World) : Calls Try.prog 102 #[.int .u32 x, .int .u64 8] w fun e w' => e = .returned (.int .u32 (rot x 16777216 256)) ∧ w' = w := by
  go_enter Try.func102, Try.ntmps102
  go_wp2
  go_ret
  exact ⟨ret_int (or_comm' _ _ _), rfl⟩
theorem turned7 (x : Int) (w : World) : Calls Try.prog 102 #[.int .u32 x, .int .u64 7] w fun e w' => e = .returned (.int .u32 (rot x 33554432 128)) ∧ w' = w := by
  go_enter Try.func102, Try.ntmps102
  go_wp2
  go_ret
  exact ⟨ret_int (or_comm' _ _ _), rfl⟩

theorem Blk.rsetRow_ {w : World} {g : Nat} {t : TypeId} {cs : Array Value} (h : Blk w g t cs) (cs' : Array Value) : Blk (w.setRow g cs') g t cs' := setRow_heap w g cs cs' t (0, 0) h
theorem rbelow_setRow {B g : Nat} {w0 w : World} (hb : Below B w0 w) (hBg : B ≤ g) (cs : Array Value) : Below B w0 (w.setRow g cs) :=
  hb.trans ⟨rfl, rfl, rfl, by simp [World.setRow], fun k hk => setRow_other w g k cs (by omega)⟩
theorem nums_all32 (vs : List Int) : (nums .u32 vs).toArray.all (·.oneCell') = true := by
  rw [Array.all_eq_true_iff_forall_mem]
  intro v hv
  simp only [nums, List.mem_toArray, List.mem_map] at hv
  obtain ⟨x, _, rfl⟩ := hv
  rfl
/-- What stands while four numbers are mixed. -/
structure RF (w0 w : World) (a b c d : Nat) (vs : List Int) (xa xb xc xd : Int) : Prop where
  below : Below w0.heap.size w0 w
  blk : Blk w w0.heap.size 112 (nums .u32 vs).toArray
  res : Blk w (w0.heap.size + 1) 112 (nums .u32 (List.replicate 16 0)).toArray
  len : vs.length = 16
  ga : vs.getD a 0 = xa
  gb : vs.getD b 0 = xb
  gc : vs.getD c 0 = xc
  gd : vs.getD d 0 = xd
theorem getD_set_ne {vs : List Int} {i j : Nat} (h : i ≠ j) (y : Int) : (vs.set i y).getD j 0 = vs.getD j 0 := by
  simp [List.getD_eq_getElem?_getD, List.getElem?_set_ne h]
theorem getD_set_eq {vs : List Int} {i : Nat} (h : i < vs.length) (y : Int) : (vs.set i y).getD i 0 = y := by
  simp [List.getD_eq_getElem?_getD, List.getElem?_set_self h]
theorem RF.q {w0 w : World} {a b c d : Nat} {vs : List Int} {xa xb xc xd : Int} (X : RF w0 w a b c d vs xa xb xc xd) (i : Nat) (hi : i < 16) {y : Int} (hy : vs.getD i 0 = y) : w.cell? ⟨w0.heap.size, i, none⟩ = some (.int .u32 y) := by
  rw [← hy]
  exact (X.blk.cell i).trans (nums_get (by rw [X.len]; exact hi))
theorem RF.set_ {w0 w : World} {a b c d : Nat} {vs : List Int} {xa xb xc xd : Int} (X : RF w0 w a b c d vs xa xb xc xd) (i : Nat) (y : Int) {ya yb yc yd : Int} (ha : (vs.set i y).getD a 0 = ya) (hb : (vs.set i y).getD b 0 = yb) (hc : (vs.set i y).getD c 0 = yc) (hd : (vs.set i y).getD d 0 = yd) :
    RF w0 ((w.setCell ⟨w0.heap.size, i, none⟩ (.int .u32 y)).drew) a b c d (vs.set i y) ya yb yc yd := by
  refine ⟨below_drew (X.below.setCell (Nat.le_refl _) _), ?_, (X.res.far (by simp) _).drew, by rw [List.length_set]; exact X.len, ha, hb, hc, hd⟩
  have z := X.blk.set_ i (.int .u32 y)
  rw [nums_set] at z
  exact z.drew
theorem RF.set_a {w0 w : World} {a b c d : Nat} {vs : List Int} {xa xb xc xd : Int} (X : RF w0 w a b c d vs xa xb xc xd) (y : Int) (h : a < 16) (mb : a ≠ b) (mc : a ≠ c) (md : a ≠ d) :
    RF w0 ((w.setCell ⟨w0.heap.size, a, none⟩ (.int .u32 y)).drew) a b c d (vs.set a y) y xb xc xd :=
  X.set_ a y (getD_set_eq (by rw [X.len]; exact h) y) ((getD_set_ne mb y).trans X.gb) ((getD_set_ne mc y).trans X.gc) ((getD_set_ne md y).trans X.gd)
theorem RF.set_b {w0 w : World} {a b c d : Nat} {vs : List Int} {xa xb xc xd : Int} (X : RF w0 w a b c d vs xa xb xc xd) (y : Int) (h : b < 16) (ma : b ≠ a) (mc : b ≠ c) (md : b ≠ d) :
    RF w0 ((w.setCell ⟨w0.heap.size, b, none⟩ (.int .u32 y)).drew) a b c d (vs.set b y) xa y xc xd :=
  X.set_ b y ((getD_set_ne ma y).trans X.ga) (getD_set_eq (by rw [X.len]; exact h) y) ((getD_set_ne mc y).trans X.gc) ((getD_set_ne md y).trans X.gd)
theorem RF.set_c {w0 w : World} {a b c d : Nat} {vs : List Int} {xa xb xc xd : Int} (X : RF w0 w a b c d vs xa xb xc xd) (y : Int) (h : c < 16) (ma : c ≠ a) (mb : c ≠ b) (md : c ≠ d) :
    RF w0 ((w.setCell ⟨w0.heap.size, c, none⟩ (.int .u32 y)).drew) a b c d (vs.set c y) xa xb y xd :=
  X.set_ c y ((getD_set_ne ma y).trans X.ga) ((getD_set_ne mb y).trans X.gb) (getD_set_eq (by rw [X.len]; exact h) y) ((getD_set_ne md y).trans X.gd)
theorem RF.set_d {w0 w : World} {a b c d : Nat} {vs : List Int} {xa xb xc xd : Int} (X : RF w0 w a b c d vs xa xb xc xd) (y : Int) (h : d < 16) (ma : d ≠ a) (mb : d ≠ b) (mc : d ≠ c) :
    RF w0 ((w.setCell ⟨w0.heap.size, d, none⟩ (.int .u32 y)).drew) a b c d (vs.set d y) xa xb xc y :=
  X.set_ d y ((getD_set_ne ma y).trans X.ga) ((getD_set_ne mb y).trans X.gb) ((getD_set_ne mc y).trans X.gc) (getD_set_eq (by rw [X.len]; exact h) y)
theorem mod_add3 (a b x : Int) : ((a + b) % 4294967296 + x) % 4294967296 = (a + (b + x) % 4294967296) % 4294967296 := by omega
set_option maxRecDepth 100000 in
set_option maxHeartbeats 4000000 in
theorem rmix_calls {vs : List Int} (a b c d : Nat) (x y : Int) (w : World) (hl : vs.length = 16) (la : a < 16) (lb : b < 16) (lc : c < 16) (ld : d < 16) (ab : a ≠ b) (ac : a ≠ c) (ad : a ≠ d) (bc : b ≠ c) (bd : b ≠ d) (cd : c ≠ d) :
    Calls Try.prog 87 #[.agg (nums .u32 vs).toArray, .int .i64 a, .int .i64 b, .int .i64 c, .int .i64 d, .int .u32 x, .int .u32 y] w
      fun e w' => e = .returned (.agg (nums .u32 (mixL vs a b c d x y)).toArray) ∧ Below w.heap.size w w' := by
  have X0 : RF w ((w.alloc (.cells (nums .u32 vs).toArray 112)).alloc (.cells (nums .u32 (List.replicate 16 0)).toArray 112)) a b c d vs (vs.getD a 0) (vs.getD b 0) (vs.getD c 0) (vs.getD d 0) :=
    ⟨((Below.refl w.heap.size w).alloc (Nat.le_refl _) _).alloc (by rw [sz]; omega) _, (Blk.new w 112 _).alloc _, by have z := Blk.new (w.alloc (.cells (nums .u32 vs).toArray 112)) 112 (nums .u32 (List.replicate 16 0)).toArray; rw [sz] at z; exact z, hl, rfl, rfl, rfl, rfl⟩
  generalize hw0 : ((w.alloc (.cells (nums .u32 vs).toArray 112)).alloc (.cells (nums .u32 (List.replicate 16 0)).toArray 112)) = w0 at X0
  have HW0 := Aside0.mk hw0
  clear hw0
  have ML : mixL vs a b c d x y = halfL (halfL vs a b c d x 65536 65536 1048576 4096) a b c d y 16777216 256 33554432 128 := rfl
  generalize hm : mixL vs a b c d x y = R at ML ⊢
  have ML := Aside0.mk ML
  clear hm
  obtain ⟨xa, ha⟩ : ∃ z, z = vs.getD a 0 := ⟨_, rfl⟩
  obtain ⟨xb, hb⟩ : ∃ z, z = vs.getD b 0 := ⟨_, rfl⟩
  obtain ⟨xc, hc⟩ : ∃ z, z = vs.getD c 0 := ⟨_, rfl⟩
  obtain ⟨xd, hd⟩ : ∃ z, z = vs.getD d 0 := ⟨_, rfl⟩
  rw [← ha, ← hb, ← hc, ← hd] at X0
  have l0 : vs.length = 16 := hl
  have X1 := X0.set_a (hA xa xb x) la ab ac ad
  have X2 := X1.set_d (hD xa xb xd x 65536 65536) ld ad.symm bd.symm cd.symm
  have X3 := X2.set_c (hC xa xb xc xd x 65536 65536) lc ac.symm bc.symm cd
  have X4 := X3.set_b (hB xa xb xc xd x 65536 65536 1048576 4096) lb ab.symm bc bd
  obtain ⟨v4, hv4⟩ : ∃ z, z = (((vs.set a (hA xa xb x)).set d (hD xa xb xd x 65536 65536)).set c (hC xa xb xc xd x 65536 65536)).set b (hB xa xb xc xd x 65536 65536 1048576 4096) := ⟨_, rfl⟩
  have HF1 : halfL vs a b c d x 65536 65536 1048576 4096 = v4 := by rw [hv4]; unfold halfL; rw [← ha, ← hb, ← hc, ← hd]
  obtain ⟨ya, hya⟩ : ∃ z, z = hA xa xb x := ⟨_, rfl⟩
  obtain ⟨yb, hyb⟩ : ∃ z, z = hB xa xb xc xd x 65536 65536 1048576 4096 := ⟨_, rfl⟩
  obtain ⟨yc, hyc⟩ : ∃ z, z = hC xa xb xc xd x 65536 65536 := ⟨_, rfl⟩
  obtain ⟨yd, hyd⟩ : ∃ z, z = hD xa xb xd x 65536 65536 := ⟨_, rfl⟩
  rw [← hv4, ← hya, ← hyb, ← hyc, ← hyd] at X4
  rw [← hya] at X1
  rw [← hya, ← hyd] at X2
  rw [← hya, ← hyc, ← hyd] at X3
  have X5 := X4.set_a (hA ya yb y) la ab ac ad
  have X6 := X5.set_d (hD ya yb yd y 16777216 256) ld ad.symm bd.symm cd.symm
  have X7 := X6.set_c (hC ya yb yc yd y 16777216 256) lc ac.symm bc.symm cd
  have X8 := X7.set_b (hB ya yb yc yd y 16777216 256 33554432 128) lb ab.symm bc bd
  have ME : R = (((v4.set a (hA ya yb y)).set d (hD ya yb yd y 16777216 256)).set c (hC ya yb yc yd y 16777216 256)).set b (hB ya yb yc yd y 16777216 256 33554432 128) := by
    rw [ML.out, HF1]
    unfold halfL
    rw [X4.ga, X4.gb, X4.gc, X4.gd]
  have LM : R.length = 16 := by rw [ME]; exact X8.len
  obtain ⟨w1, hw1⟩ : ∃ z, z = (w0.setCell ⟨w.heap.size, a, none⟩ (.int .u32 (ya))).drew := ⟨_, rfl⟩
  rw [← hw1] at X1 X2 X3 X4 X5 X6 X7 X8
  obtain ⟨w2, hw2⟩ : ∃ z, z = (w1.setCell ⟨w.heap.size, d, none⟩ (.int .u32 (yd))).drew := ⟨_, rfl⟩
  rw [← hw2] at X2 X3 X4 X5 X6 X7 X8
  obtain ⟨w3, hw3⟩ : ∃ z, z = (w2.setCell ⟨w.heap.size, c, none⟩ (.int .u32 (yc))).drew := ⟨_, rfl⟩
  rw [← hw3] at X3 X4 X5 X6 X7 X8
  obtain ⟨w4, hw4⟩ : ∃ z, z = (w3.setCell ⟨w.heap.size, b, none⟩ (.int .u32 (yb))).drew := ⟨_, rfl⟩
  rw [← hw4] at X4 X5 X6 X7 X8
  obtain ⟨w5, hw5⟩ : ∃ z, z = (w4.setCell ⟨w.heap.size, a, none⟩ (.int .u32 (hA ya yb y))).drew := ⟨_, rfl⟩
  rw [← hw5] at X5 X6 X7 X8
  obtain ⟨w6, hw6⟩ : ∃ z, z = (w5.setCell ⟨w.heap.size, d, none⟩ (.int .u32 (hD ya yb yd y 16777216 256))).drew := ⟨_, rfl⟩
  rw [← hw6] at X6 X7 X8
  obtain ⟨w7, hw7⟩ : ∃ z, z = (w6.setCell ⟨w.heap.size, c, none⟩ (.int .u32 (hC ya yb yc yd y 16777216 256))).drew := ⟨_, rfl⟩
  rw [← hw7] at X7 X8
  obtain ⟨w8, hw8⟩ : ∃ z, z = (w7.setCell ⟨w.heap.size, b, none⟩ (.int .u32 (hB ya yb yc yd y 16777216 256 33554432 128))).drew := ⟨_, rfl⟩
  rw [← hw8] at X8
  rw [← ME] at X8
  have X0 := Aside0.mk X0
  have X1 := Aside0.mk X1
  have X2 := Aside0.mk X2
  have X3 := Aside0.mk X3
  have X4 := Aside0.mk X4
  have X5 := Aside0.mk X5
  have X6 := Aside0.mk X6
  have X7 := Aside0.mk X7
  have X8 := Aside0.mk X8
  have J1 := Aside0.mk hw1
  have J2 := Aside0.mk hw2
  have J3 := Aside0.mk hw3
  have J4 := Aside0.mk hw4
  have J5 := Aside0.mk hw5
  have J6 := Aside0.mk hw6
  have J7 := Aside0.mk hw7
  have J8 := Aside0.mk hw8
  have LM := Aside0.mk LM
  have HYA := Aside0.mk hya
  have HYB := Aside0.mk hyb
  have HYC := Aside0.mk hyc
  have HYD := Aside0.mk hyd
  clear hw1 hw2 hw3 hw4 hw5 hw6 hw7 hw8 ha hb hc hd hya hyb hyc hyd hv4 HF1 ME hl l0
  have ia := eq_true (show (a : Int) < 16 by omega)
  have ja := eq_true (show (0 : Int) ≤ (a : Int) by omega)
  have ib := eq_true (show (b : Int) < 16 by omega)
  have jb := eq_true (show (0 : Int) ≤ (b : Int) by omega)
  have ic := eq_true (show (c : Int) < 16 by omega)
  have jc := eq_true (show (0 : Int) ≤ (c : Int) by omega)
  have id := eq_true (show (d : Int) < 16 by omega)
  have jd := eq_true (show (0 : Int) ≤ (d : Int) by omega)
  clear ab ac ad bc bd cd
  go_enter Try.func87, Try.ntmps87
  go_wp2_with fail
  rw [show ((w.alloc (.cells (nums .u32 vs).toArray 112)).alloc (.cells #[.int .u32 0, .int .u32 0, .int .u32 0, .int .u32 0, .int .u32 0, .int .u32 0, .int .u32 0, .int .u32 0, .int .u32 0, .int .u32 0, .int .u32 0, .int .u32 0, .int .u32 0, .int .u32 0, .int .u32 0, .int .u32 0] 112)) = w0 from HW0.out]
  have fz := X0.out.blk.frozen a
  have qa := X0.out.q a la X0.out.ga
  have qb := X0.out.q b lb X0.out.gb
  have qc := X0.out.q c lc X0.out.gc
  have qd := X0.out.q d ld X0.out.gd
  go_still_tail 11, (by kernel_rfl)
  go_wp2_with fail
  rw [show (w0.setCell ⟨w.heap.size, a, none⟩ (.int .u32 (((xa + xb) % 4294967296 + x) % 4294967296))).drew = w1 from by rw [mod_add3, show (xa + (xb + x) % 4294967296) % 4294967296 = ya from HYA.out.symm]; exact J1.out.symm]
  clear fz qa qb qc qd
  have fz := X1.out.blk.frozen d
  have qa := X1.out.q a la X1.out.ga
  have qb := X1.out.q b lb X1.out.gb
  have qc := X1.out.q c lc X1.out.gc
  have qd := X1.out.q d ld X1.out.gd
  refine wp_region_still_tail 10 (by kernel_rfl) (by kernel_rfl) ?_
  simp only [List.take_succ_cons, List.take_zero, List.drop_succ_cons, List.drop_zero]
  repeat still_step
  still_call (turned16 _ _)
  repeat still_step
  refine wpStill_nil ?_
  go_wp2_with fail
  rw [show (w1.setCell ⟨w.heap.size, d, none⟩ (.int .u32 (rot (Go.bits .xor .u32 xd ya) 65536 65536))).drew = w2 from by rw [show rot (Go.bits .xor .u32 xd ya) 65536 65536 = yd from by rw [HYD.out, HYA.out]; rfl]; exact J2.out.symm]
  clear fz qa qb qc qd
  have fz := X2.out.blk.frozen c
  have qa := X2.out.q a la X2.out.ga
  have qb := X2.out.q b lb X2.out.gb
  have qc := X2.out.q c lc X2.out.gc
  have qd := X2.out.q d ld X2.out.gd
  go_still_tail 9, (by kernel_rfl)
  go_wp2_with fail
  rw [show (w2.setCell ⟨w.heap.size, c, none⟩ (.int .u32 ((xc + yd) % 4294967296))).drew = w3 from by rw [show (xc + yd) % 4294967296 = yc from by rw [HYC.out, HYD.out]; rfl]; exact J3.out.symm]
  clear fz qa qb qc qd
  have fz := X3.out.blk.frozen b
  have qa := X3.out.q a la X3.out.ga
  have qb := X3.out.q b lb X3.out.gb
  have qc := X3.out.q c lc X3.out.gc
  have qd := X3.out.q d ld X3.out.gd
  refine wp_region_still_tail 10 (by kernel_rfl) (by kernel_rfl) ?_
  simp only [List.take_succ_cons, List.take_zero, List.drop_succ_cons, List.drop_zero]
  repeat still_step
  still_call (turned12 _ _)
  repeat still_step
  refine wpStill_nil ?_
  go_wp2_with fail
  rw [show (w3.setCell ⟨w.heap.size, b, none⟩ (.int .u32 (rot (Go.bits .xor .u32 xb yc) 1048576 4096))).drew = w4 from by rw [show rot (Go.bits .xor .u32 xb yc) 1048576 4096 = yb from by rw [HYB.out, HYC.out]; rfl]; exact J4.out.symm]
  clear fz qa qb qc qd
  have fz := X4.out.blk.frozen a
  have qa := X4.out.q a la X4.out.ga
  have qb := X4.out.q b lb X4.out.gb
  have qc := X4.out.q c lc X4.out.gc
  have qd := X4.out.q d ld X4.out.gd
  go_still_tail 11, (by kernel_rfl)
  go_wp2_with fail
  rw [show (w4.setCell ⟨w.heap.size, a, none⟩ (.int .u32 (((ya + yb) % 4294967296 + y) % 4294967296))).drew = w5 from by rw [mod_add3]; exact J5.out.symm]
  clear fz qa qb qc qd
  have fz := X5.out.blk.frozen d
  have qa := X5.out.q a la X5.out.ga
  have qb := X5.out.q b lb X5.out.gb
  have qc := X5.out.q c lc X5.out.gc
  have qd := X5.out.q d ld X5.out.gd
  refine wp_region_still_tail 10 (by kernel_rfl) (by kernel_rfl) ?_
  simp only [List.take_succ_cons, List.take_zero, List.drop_succ_cons, List.drop_zero]
  repeat still_step
  still_call (turned8 _ _)
  repeat still_step
  refine wpStill_nil ?_
  go_wp2_with fail
  rw [show (w5.setCell ⟨w.heap.size, d, none⟩ (.int .u32 (rot (Go.bits .xor .u32 yd (hA ya yb y)) 16777216 256))).drew = w6 from J6.out.symm]
  clear fz qa qb qc qd
  have fz := X6.out.blk.frozen c
  have qa := X6.out.q a la X6.out.ga
  have qb := X6.out.q b lb X6.out.gb
  have qc := X6.out.q c lc X6.out.gc
  have qd := X6.out.q d ld X6.out.gd
  go_still_tail 9, (by kernel_rfl)
  go_wp2_with fail
  rw [show (w6.setCell ⟨w.heap.size, c, none⟩ (.int .u32 ((yc + hD ya yb yd y 16777216 256) % 4294967296))).drew = w7 from J7.out.symm]
  clear fz qa qb qc qd
  have B0 := Aside0.mk X8.out.blk
  have B1 := Aside0.mk X8.out.res
  have fz := X7.out.blk.frozen b
  have qa := X7.out.q a la X7.out.ga
  have qb := X7.out.q b lb X7.out.gb
  have qc := X7.out.q c lc X7.out.gc
  have qd := X7.out.q d ld X7.out.gd
  refine wp_region_still_tail 10 (by kernel_rfl) (by kernel_rfl) ?_
  simp only [List.take_succ_cons, List.take_zero, List.drop_succ_cons, List.drop_zero]
  repeat still_step
  still_call (turned7 _ _)
  repeat still_step
  refine wpStill_nil ?_
  go_wp2_with (first | (rw [show (w7.setCell ⟨w.heap.size, b, none⟩ (.int .u32 (rot (Go.bits .xor .u32 yb (hC ya yb yc yd y 16777216 256)) 33554432 128))).drew = w8 from J8.out.symm]) | (refine wpList_load_row rfl 112 (.tmp 7) rfl w.heap.size rfl 112 _ (0, 0) _ B0.out Try.underlying112 rfl (by rw [List.size_toArray, nums_length, LM.out]; kernel_rfl) ?_) | (refine wpList_store_row rfl 112 (.tmp 14) (.tmp 95) rfl (w.heap.size + 1) _ rfl rfl 112 _ B1.out (by rw [List.size_toArray, nums_length, LM.out]; kernel_rfl) (by rw [List.size_toArray, nums_length, List.size_toArray, nums_length, LM.out]; rfl) (nums_all32 _) ?_))
  exact bodyPost_ret (results_cell_row (p := 14) (ty := 112) rfl _ _ (w.heap.size + 1) 112 _ (0, 0) _ rfl (B1.out.rsetRow_ _) Try.underlying112 rfl (by rw [List.size_toArray, nums_length, LM.out]; kernel_rfl)) rfl ⟨rfl, rbelow_setRow X8.out.below (by omega) _⟩
end Go.Proofs.Ytoljjgabgdifbaa.H

