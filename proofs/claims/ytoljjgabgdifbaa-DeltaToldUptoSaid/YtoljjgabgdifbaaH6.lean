/- Layer 2 of the program: the digest of bytes. -/
import Derived.Test.YtoljjgabgdifbaaH5
import Derived.Test.YtoljjgabgdifbaaShelf
namespace Go.Proofs.Ytoljjgabgdifbaa.H
open Go.RowKit Go.Proofs.YtoljjgabgdifbaaW.PrintWords Go.Proofs.YtoljjgabgdifbaaW.PrintLast
set_option linter.unusedVariables false
set_option linter.unusedSimpArgs false

section
variable {P : Program}
theorem row_loads {oi : Oper} {a : Act} (ty : TypeId) (x : Operand) (ho : oi.op = .load ty x) (g : Nat) (hx : a.eval x = .pointer (some ⟨g, 0, none⟩)) {w : World} {t : TypeId} {cs : Array Value} (hg : Blk w g t cs)
    {d : TypeDesc} (hu : P.underlying ty = some d) (hd : (match d with | .struct _ | .array _ _ => true | _ => false) = true) (hi : (P.info? ty).map (·.size) = some cs.size) :
    (execOp a.eval oi).run P w = .ok (.value (.agg cs)) w := by
  unfold execOp
  simp only [ho, hx, Instr.loadAt, Instr.sureAddr, Sem.run_bind, Sem.run_pure, Result.andThen_ok, run_loadVar_row w g t ty cs (0, 0) d hg hu hd hi]
theorem row_stores {oi : Oper} {a : Act} (ty : TypeId) (x y : Operand) (ho : oi.op = .store ty x y) (g : Nat) (cells : Array Value) (hx : a.eval x = .pointer (some ⟨g, 0, none⟩)) (hy : a.eval y = .agg cells)
    {w : World} {t : TypeId} {old : Array Value} (hg : Blk w g t old) (hi : (P.info? ty).map (·.size) = some cells.size) (hold : old.size = cells.size) (h1 : cells.all (·.oneCell') = true) :
    (execOp a.eval oi).run P w = .ok .skip (w.setRow g cells) := by
  unfold execOp
  simp only [ho, hx, hy, Instr.storeAt, Instr.sureAddr, Sem.run_bind, Sem.run_pure, Result.andThen_ok, run_storeVar_row w g t ty old cells hg hi hold h1]
end
theorem nums_all (vs : List Int) : (nums .u32 vs).toArray.all (·.oneCell') = true := by
  rw [Array.all_eq_true_iff_forall_mem]
  intro v hv
  exact nums_one vs v (by simpa using hv)
/-- What is behind the text, up to a whole block. -/
def pad (s : ByteArray) : ByteArray := s ++ ⟨(Lib.repeatL [0] (64 - s.size)).toArray⟩
theorem repeat_len : ∀ n : Nat, (Lib.repeatL ([0] : List UInt8) n).length = n
  | 0 => rfl
  | n + 1 => by simp [Lib.repeatL, repeat_len n]
theorem pad_size {s : ByteArray} (h : s.size ≤ 64) : (pad s).size = 64 := by
  unfold pad
  rw [ByteArray.size_append]
  show s.size + (Lib.repeatL [0] (64 - s.size)).toArray.size = 64
  rw [List.size_toArray, repeat_len]
  omega
/-- The eight numbers behind all bytes. -/
def digH (h : List Int) (s : ByteArray) (n : Int) : List Int :=
  if 64 < s.size then digH (takeL h (s.extract 0 64) (IntKind.u64.wrap (n + 64)) false) (s.extract 64 s.size) (IntKind.u64.wrap (n + 64))
  else takeL h (pad s) (IntKind.u64.wrap (n + s.size)) true
termination_by s.size
decreasing_by
  rw [ByteArray.size_extract]
  omega
def outAt (h : List Int) (i : Nat) : Int := h.getD (i / 4) 0 / 2 ^ (8 * (i % 4)) % 256
/-- The first k bytes of the digest, behind them nothing. -/
def outL (h : List Int) (k : Nat) : List Int := (List.range 32).map fun i => if i < k then outAt h i else 0
theorem outL_len (h : List Int) (k : Nat) : (outL h k).length = 32 := by simp [outL]
theorem outL_set (h : List Int) (k : Nat) (hk : k < 32) : (outL h k).set k (outAt h k) = outL h (k + 1) := by
  apply List.ext_getElem (by simp [outL])
  intro i h1 h2
  simp only [outL, List.getElem_set, List.getElem_map, List.getElem_range]
  by_cases e : k = i
  · subst e
    simp
  · rw [if_neg e]
    have : (i < k) ↔ (i < k + 1) := by omega
    simp only [this]
/-- What stands while blocks are taken in. -/
structure D1 (w0 w : World) (h : List Int) : Prop where
  below : Below w0.heap.size w0 w
  b0 : Blk w w0.heap.size 76 (nums .u32 h).toArray
  b1 : Blk w (w0.heap.size + 1) 29 (nums .u8 (outL [] 0)).toArray
theorem D1.far {w0 w w' : World} {h : List Int} (X : D1 w0 w h) (hb : Below w.drew.heap.size w.drew w') : D1 w0 w' h :=
  ⟨below_then (below_drew X.below) (by have := X.b0.lt; show w0.heap.size ≤ w.heap.size; omega) hb, X.b0.drew.below hb X.b0.lt, X.b1.drew.below hb X.b1.lt⟩
theorem D1.far2 {w0 w w' : World} {h : List Int} (X : D1 w0 w h) (hb : Below w.heap.size w w') : D1 w0 w' h :=
  ⟨below_then X.below (by have := X.b0.lt; omega) hb, X.b0.below hb X.b0.lt, X.b1.below hb X.b1.lt⟩
theorem D1.set_ {w0 w : World} {h h' : List Int} (X : D1 w0 w h) : D1 w0 (w.setRow w0.heap.size (nums .u32 h').toArray) h' :=
  ⟨below_setRow' X.below (Nat.le_refl _) _, X.b0.setRow_ _, X.b1.setRow_far (by omega) _⟩

theorem run_index_nums {R : List Int} (k : Nat) (hk : k < 8) (hR : R.length = 8) (w : World) : (Instr.index 76 (.agg (nums .u32 R).toArray) (.int .i64 (k : Int))).run Try.prog w = .ok (.int .u32 (R.getD k 0)) w := by
  have h : (nums .u32 R).toArray[k]? = some (.int .u32 (R.getD k 0)) := nums_get (by omega)
  unfold Instr.index part
  simp only [asIntOf, Sem.run_bind, Sem.run_pure, Result.andThen_ok, run_underlying Try.underlying76]
  rw [if_pos (by omega)]
  simp only [Sem.run_bind, Sem.run_pure, Result.andThen_ok, Try.isAgg75, Try.sizeOf75, Int.toNat_natCast, Nat.mul_one, h]
  rfl
theorem nums_set8 (vs : List Int) (i : Nat) (y : Int) : (nums .u8 vs).toArray.setIfInBounds i (.int .u8 y) = (nums .u8 (vs.set i y)).toArray := by
  simp [nums, List.map_set]
theorem nums_get8 {vs : List Int} {i : Nat} (h : i < vs.length) : (nums .u8 vs).toArray[i]? = some (.int .u8 (vs.getD i 0)) := by
  simp [nums, List.getElem?_map, List.getElem?_eq_getElem h, List.getD_eq_getElem?_getD]
theorem nums_one8 (vs : List Int) : ∀ v ∈ nums .u8 vs, v.oneCell' = true := by
  intro v hv
  simp only [nums, List.mem_map] at hv
  obtain ⟨x, _, rfl⟩ := hv
  rfl
theorem nums_all8 (vs : List Int) : (nums .u8 vs).toArray.all (·.oneCell') = true := by
  rw [Array.all_eq_true_iff_forall_mem]
  intro v hv
  exact nums_one8 vs v (by simpa using hv)
/-- What stands while the digest's bytes are written. -/
structure D2 (w0 w : World) (go : Nat) (R : List Int) (k : Nat) : Prop where
  below : Below w0.heap.size w0 w
  b1 : Blk w (w0.heap.size + 1) 29 (nums .u8 (outL [] 0)).toArray
  b2 : Blk w go 29 (nums .u8 (outL R k)).toArray
  lt : w0.heap.size + 1 < go
theorem D1.start {w0 w : World} {h R : List Int} (X : D1 w0 w h) : D2 w0 (w.alloc (.cells (nums .u8 (outL R 0)).toArray 29)) w.heap.size R 0 :=
  ⟨X.below.alloc (by have := X.b0.lt; omega) _, X.b1.alloc _, Blk.new _ _ _, X.b1.lt⟩
theorem D2.step {w0 w : World} {go : Nat} {R : List Int} {k : Nat} (X : D2 w0 w go R k) (hk : k < 32) : D2 w0 (w.setCell ⟨go, k, none⟩ (.int .u8 (outAt R k))) go R (k + 1) := by
  have l := X.lt
  refine ⟨X.below.setCell (by simp; omega) _, X.b1.far (by simp; omega) _, ?_, X.lt⟩
  have z := X.b2.set_ k (.int .u8 (outAt R k))
  rw [nums_set8, outL_set _ _ hk] at z
  exact z

set_option maxRecDepth 100000 in
set_option maxHeartbeats 20000000 in
theorem digest_calls (h0 : List Int) (s0 : ByteArray) (w : World) (hh : h0.length = 8) :
    Calls Try.prog 48 #[.agg (nums .u32 h0).toArray, .string s0] w fun e w' => e = .returned (.agg (nums .u8 (outL (digH h0 s0 0) 32)).toArray) ∧ Below w.heap.size w w' := by
  have X0 : D1 w ((w.alloc (.cells (nums .u32 h0).toArray 76)).alloc (.cells (nums .u8 (outL [] 0)).toArray 29)) h0 :=
    ⟨((Below.refl w.heap.size w).alloc (Nat.le_refl _) _).alloc (by rw [sz]; omega) _, (Blk.new w 76 _).alloc _, by have z := Blk.new (w.alloc (.cells (nums .u32 h0).toArray 76)) 29 (nums .u8 (outL [] 0)).toArray; rw [sz] at z; exact z⟩
  generalize hw0 : ((w.alloc (.cells (nums .u32 h0).toArray 76)).alloc (.cells (nums .u8 (outL [] 0)).toArray 29)) = w0 at X0
  have HW0 := Aside0.mk hw0
  have X0 := Aside0.mk X0
  clear hw0
  obtain ⟨R, hR⟩ : ∃ R, R = digH h0 s0 0 := ⟨_, rfl⟩
  rw [← hR]
  have HH0 := Aside0.mk hh
  have HR0 := Aside0.mk hR
  clear hh hR
  go_enter Try.func48, Try.ntmps48
  go_wp2
  rw [show ((w.alloc (.cells (nums .u32 h0).toArray 76)).alloc (.cells #[.int .u8 0, .int .u8 0, .int .u8 0, .int .u8 0, .int .u8 0, .int .u8 0, .int .u8 0, .int .u8 0, .int .u8 0, .int .u8 0, .int .u8 0, .int .u8 0, .int .u8 0, .int .u8 0, .int .u8 0, .int .u8 0, .int .u8 0, .int .u8 0, .int .u8 0, .int .u8 0, .int .u8 0, .int .u8 0, .int .u8 0, .int .u8 0, .int .u8 0, .int .u8 0, .int .u8 0, .int .u8 0, .int .u8 0, .int .u8 0, .int .u8 0, .int .u8 0] 29)) = w0 from HW0.out]
  go_loopg [1, 5] (s0.size) (fun gk v1 v5 wr => ∃ (h : List Int) (s : ByteArray) (n : Int), v1 = .string s ∧ v5 = .int .u64 n ∧ Aside0 (gk = s.size) ∧ Aside0 (h.length = 8) ∧ Aside0 (R = digH h s n) ∧ Aside0 (D1 w wr h))
  case atStart => exact ⟨h0, s0, 0, rfl, rfl, ⟨rfl⟩, HH0, HR0, X0⟩
  case round =>
    clear X0 HW0 HH0 HR0
    obtain ⟨h, s, n, rfl, rfl, hk, HH, HR, X⟩ := hrel
    by_cases hlt : 64 < s.size
    · have hb1 := eq_true (show (64 : Int) < (s.size : Int) by omega)
      have hb2 := eq_true (show (64 : Int) ≤ (s.size : Int) by omega)
      have HE : (s.extract 0 64).size = 64 := by rw [ByteArray.size_extract]; omega
      go_wp2_with fail
      refine start_ (n := 9) (S := fun w' => Blk w' w.heap.size 76 (nums .u32 h).toArray) (ds := [7]) #[false, false, false, false, false, false, false, false, false] (by kernel_rfl) rfl rfl (X.out.b0.drew) (fun hHeld => ?_)
      refine pure_ (i := 1) (N := some 16) (v := ?_) (a' := ?_) #[false, true, false, false, false, false, false, false, false] rfl rfl (by kernel_rfl) (fun _ _ _ h => h) (Or.inl ⟨by rfl, ?_⟩) ?_ ?_
      rotate_left
      · intro w'
        go_simp
        with_reducible rfl
      rotate_left
      · simp only [Act.put, List.setIfInBounds_toArray, List.set_cons_zero, List.set_cons_succ, i64_w, i32_w]
        rfl
      refine pure_ (i := 2) (N := some 17) (v := ?_) (a' := ?_) #[false, true, true, false, false, false, false, false, false] rfl rfl (by kernel_rfl) (fun _ _ _ h => h) (Or.inl ⟨by rfl, ?_⟩) ?_ ?_
      rotate_left
      · intro w'
        go_simp
        with_reducible rfl
      rotate_left
      · simp only [Act.put, List.setIfInBounds_toArray, List.set_cons_zero, List.set_cons_succ, i64_w, i32_w]
        rfl
      refine pure_ (i := 3) (N := some 18) (v := ?_) (a' := ?_) #[false, true, true, true, false, false, false, false, false] rfl rfl (by kernel_rfl) (fun _ _ _ h => h) (Or.inl ⟨by rfl, ?_⟩) ?_ ?_
      rotate_left
      · intro w'
        go_simp
        with_reducible rfl
      rotate_left
      · simp only [Act.put, List.setIfInBounds_toArray, List.set_cons_zero, List.set_cons_succ, i64_w, i32_w]
        rfl
      refine pure_ (i := 5) (N := some 20) (v := ?_) (a' := ?_) #[false, true, true, true, false, true, false, false, false] rfl rfl (by kernel_rfl) (fun _ _ _ h => h) (Or.inl ⟨by rfl, ?_⟩) ?_ ?_
      rotate_left
      · intro w'
        go_simp
        with_reducible rfl
      rotate_left
      · simp only [Act.put, List.setIfInBounds_toArray, List.set_cons_zero, List.set_cons_succ, i64_w, i32_w]
        rfl
      refine pure_ (i := 6) (N := some 21) (v := ?_) (a' := ?_) #[false, true, true, true, false, true, true, false, false] rfl rfl (by kernel_rfl) (fun _ _ _ h => h) (Or.inl ⟨by rfl, ?_⟩) ?_ ?_
      rotate_left
      · intro w'
        go_simp
        with_reducible rfl
      rotate_left
      · simp only [Act.put, List.setIfInBounds_toArray, List.set_cons_zero, List.set_cons_succ, i64_w, i32_w]
        rfl
      refine take_ (i := 0) (N := some 15) (v := ?_) (a' := ?_) #[true, true, true, true, false, true, true, false, false] rfl rfl (by kernel_rfl) (fun _ _ _ h => h) (Or.inl ⟨by rfl, ?_⟩) hHeld ?_ ?_
      rotate_left
      · intro w' s0
        refine row_loads 76 (.tmp 2) ?_ w.heap.size ?_ s0 Try.underlying76 ?_ ?_
        · rfl
        · rfl
        · rfl
        · rw [List.size_toArray, nums_length, HH.out]; kernel_rfl
      rotate_left
      · simp only [Act.put, List.setIfInBounds_toArray, List.set_cons_zero, List.set_cons_succ, i64_w, i32_w]
        rfl
      refine one_ (i := 4) (N := some 19) #[true, true, true, true, true, true, true, false, false] rfl rfl (by kernel_rfl) (by decide) (fun K hK => ?_)
      refine goes_ Try.func58 (by kernel_rfl) rfl #[.agg (nums .u32 h).toArray, .string (s.extract 0 64), .int .u64 (IntKind.u64.wrap (n + 64)), .bool false] (by rfl) rfl rfl (by simp only [List.map_toArray, List.map_cons, List.map_nil]; rfl) ?_
      with_reducible refine (take_calls h (s.extract 0 64) (IntKind.u64.wrap (n + 64)) false wr.drew HH.out HE).mono ?_
      rintro e w3 ⟨rfl, hb⟩
      refine ⟨_, rfl, ?_⟩
      have XB := Aside0.mk (X.out.far hb)
      clear hb
      refine hK.out _ _ (XB.out.b0) (fun hHeld => ?_)
      clear hK K
      refine norm_ (a' := ?_) ?_ ?_
      rotate_left
      · show Act.put _ (some 19) _ = _
        simp only [Act.put, List.setIfInBounds_toArray, List.set_cons_zero, List.set_cons_succ, i64_w, i32_w]
        rfl
      refine last_ (i := 7) (N := none) #[true, true, true, true, true, true, true, true, false] rfl rfl (by kernel_rfl) (by decide) (fun K hK => ?_)
      refine skip_ (w1 := w3.setRow w.heap.size (nums .u32 (takeL h (s.extract 0 64) (IntKind.u64.wrap (n + 64)) false)).toArray) (by rfl) rfl ?_ ?_
      · exact row_stores 76 _ _ rfl w.heap.size _ rfl rfl XB.out.b0 (by rw [List.size_toArray, nums_length, takeL_len]; kernel_rfl) (by rw [List.size_toArray, nums_length, HH.out, List.size_toArray, nums_length, takeL_len]) (nums_all _)
      refine hK.out _ _ ?_
      clear hK K
      refine pure_ (i := 8) (N := some 1) (v := ?_) (a' := ?_) #[true, true, true, true, true, true, true, true, true] rfl rfl (by kernel_rfl) (fun _ _ _ h => h) (Or.inl ⟨by rfl, ?_⟩) ?_ ?_
      rotate_left
      · intro w'
        go_simp
        with_reducible rfl
      rotate_left
      · simp only [Act.put, List.setIfInBounds_toArray, List.set_cons_zero, List.set_cons_succ, i64_w, i32_w]
        rfl
      refine done_ (by kernel_rfl) ?_

      have XS := Aside0.mk (XB.out.set_ (h' := takeL h (s.extract 0 64) (IntKind.u64.wrap (n + 64)) false))
      clear hHeld
      go_wp2_with fail
      go_roundg (s.extract 64 s.size).size
      case measure => have := hk.out; rw [ByteArray.size_extract]; omega
      case rel =>
        refine ⟨takeL h (s.extract 0 64) (IntKind.u64.wrap (n + 64)) false, s.extract 64 s.size, IntKind.u64.wrap (n + 64), rfl, rfl, ⟨rfl⟩, ⟨takeL_len _ _ _ _⟩, ⟨?_⟩, XS⟩
        have e := HR.out
        rw [digH, if_pos hlt] at e
        exact e
    · have hb1 := eq_false (show ¬ (64 : Int) < (s.size : Int) by omega)
      have hb2 : IntKind.i64.wrap (64 - (s.size : Int)) = ((64 - s.size : Nat) : Int) := by rw [IntWalk.i64_in _ (by omega)]; omega
      have hb3 := eq_false (show ¬ 9223372036854775807 < s.size + (Lib.repeatL [0] (64 - s.size)).length by rw [repeat_len]; omega)
      have HP := pad_size (s := s) (by omega)
      go_wp2_with fail
      refine start_ (n := 10) (S := fun w' => Blk w' w.heap.size 76 (nums .u32 h).toArray) (ds := [9]) #[false, false, false, false, false, false, false, false, false, false] (by kernel_rfl) rfl rfl (X.out.b0.drew) (fun hHeld => ?_)
      refine pure_ (i := 1) (N := some 28) (v := ?_) (a' := ?_) #[false, true, false, false, false, false, false, false, false, false] rfl rfl (by kernel_rfl) (fun _ _ _ h => h) (Or.inl ⟨by rfl, ?_⟩) ?_ ?_
      rotate_left
      · intro w'
        go_simp
        with_reducible rfl
      rotate_left
      · simp only [Act.put, List.setIfInBounds_toArray, List.set_cons_zero, List.set_cons_succ, i64_w, i32_w]
        rfl
      refine pure_ (i := 2) (N := some 29) (v := ?_) (a' := ?_) #[false, true, true, false, false, false, false, false, false, false] rfl rfl (by kernel_rfl) (fun _ _ _ h => h) (Or.inl ⟨by rfl, ?_⟩) ?_ ?_
      rotate_left
      · intro w'
        go_simp
        with_reducible rfl
      rotate_left
      · simp only [Act.put, List.setIfInBounds_toArray, List.set_cons_zero, List.set_cons_succ, i64_w, i32_w]
        rfl
      refine pure_ (i := 3) (N := some 30) (v := ?_) (a' := ?_) #[false, true, true, true, false, false, false, false, false, false] rfl rfl (by kernel_rfl) (fun _ _ _ h => h) (Or.inl ⟨by rfl, ?_⟩) ?_ ?_
      rotate_left
      · intro w'
        go_simp
        with_reducible rfl
      rotate_left
      · simp only [Act.put, List.setIfInBounds_toArray, List.set_cons_zero, List.set_cons_succ, i64_w, i32_w]
        rfl
      refine pure_ (i := 4) (N := some 31) (v := ?_) (a' := ?_) #[false, true, true, true, true, false, false, false, false, false] rfl rfl (by kernel_rfl) (fun _ _ _ h => h) (Or.inl ⟨by rfl, ?_⟩) ?_ ?_
      rotate_left
      · intro w'
        go_simp
        with_reducible rfl
      rotate_left
      · simp only [Act.put, List.setIfInBounds_toArray, List.set_cons_zero, List.set_cons_succ, i64_w, i32_w]
        rfl
      refine pure_ (i := 7) (N := some 34) (v := ?_) (a' := ?_) #[false, true, true, true, true, false, false, true, false, false] rfl rfl (by kernel_rfl) (fun _ _ _ h => h) (Or.inl ⟨by rfl, ?_⟩) ?_ ?_
      rotate_left
      · intro w'
        go_simp
        with_reducible rfl
      rotate_left
      · simp only [Act.put, List.setIfInBounds_toArray, List.set_cons_zero, List.set_cons_succ, i64_w, i32_w]
        rfl
      refine take_ (i := 0) (N := some 27) (v := ?_) (a' := ?_) #[true, true, true, true, true, false, false, true, false, false] rfl rfl (by kernel_rfl) (fun _ _ _ h => h) (Or.inl ⟨by rfl, ?_⟩) hHeld ?_ ?_
      rotate_left
      · intro w' s0
        refine row_loads 76 (.tmp 2) ?_ w.heap.size ?_ s0 Try.underlying76 ?_ ?_
        · rfl
        · rfl
        · rfl
        · rw [List.size_toArray, nums_length, HH.out]; kernel_rfl
      rotate_left
      · simp only [Act.put, List.setIfInBounds_toArray, List.set_cons_zero, List.set_cons_succ, i64_w, i32_w]
        rfl
      refine one_ (i := 5) (N := some 32) #[true, true, true, true, true, true, false, true, false, false] rfl rfl (by kernel_rfl) (by decide) (fun K hK => ?_)
      refine goes_ Try.func59 (by kernel_rfl) rfl #[.string ⟨#[0]⟩, .int .i64 ((64 - s.size : Nat) : Int)] (by rfl) rfl rfl (by simp only [List.map_toArray, List.map_cons, List.map_nil]; rfl) ?_
      with_reducible refine (Try.strings_Repeat ⟨#[0]⟩ (64 - s.size) wr.drew (by omega) (by rw [show (⟨#[0]⟩ : ByteArray).size = 1 from rfl]; omega)).mono ?_
      rintro e w3 ⟨rfl, hb⟩
      refine ⟨_, rfl, ?_⟩
      have XB := Aside0.mk (X.out.far hb)
      clear hb
      refine hK.out _ _ (XB.out.b0) (fun hHeld => ?_)
      clear hK K
      refine norm_ (a' := ?_) ?_ ?_
      rotate_left
      · show Act.put _ (some 32) _ = _
        simp only [Act.put, List.setIfInBounds_toArray, List.set_cons_zero, List.set_cons_succ, i64_w, i32_w]
        rfl
      refine pure_ (i := 6) (N := some 33) (v := ?_) (a' := ?_) #[true, true, true, true, true, true, true, true, false, false] rfl rfl (by kernel_rfl) (fun _ _ _ h => h) (Or.inl ⟨by rfl, ?_⟩) ?_ ?_
      rotate_left
      · intro w'
        go_simp
        with_reducible rfl
      rotate_left
      · simp only [Act.put, List.setIfInBounds_toArray, List.set_cons_zero, List.set_cons_succ, i64_w, i32_w]
        rfl
      refine one_ (i := 8) (N := some 35) #[true, true, true, true, true, true, true, true, true, false] rfl rfl (by kernel_rfl) (by decide) (fun K hK => ?_)
      refine goes_ Try.func58 (by kernel_rfl) rfl #[.agg (nums .u32 h).toArray, .string (pad s), .int .u64 (IntKind.u64.wrap (n + s.size)), .bool true] (by rfl) rfl rfl (by simp only [List.map_toArray, List.map_cons, List.map_nil]; rfl) ?_
      with_reducible refine (take_calls h (pad s) (IntKind.u64.wrap (n + s.size)) true _ HH.out HP).mono ?_
      rintro e w4 ⟨rfl, hb⟩
      refine ⟨_, rfl, ?_⟩
      have XC := Aside0.mk (XB.out.far2 hb)
      clear hb
      refine hK.out _ _ (XC.out.b0) (fun hHeld => ?_)
      clear hK K
      refine norm_ (a' := ?_) ?_ ?_
      rotate_left
      · show Act.put _ (some 35) _ = _
        simp only [Act.put, List.setIfInBounds_toArray, List.set_cons_zero, List.set_cons_succ, i64_w, i32_w]
        rfl
      refine last_ (i := 9) (N := none) #[true, true, true, true, true, true, true, true, true, true] rfl rfl (by kernel_rfl) (by decide) (fun K hK => ?_)
      refine skip_ (w1 := w4.setRow w.heap.size (nums .u32 (takeL h (pad s) (IntKind.u64.wrap (n + s.size)) true)).toArray) (by rfl) rfl ?_ ?_
      · exact row_stores 76 _ _ rfl w.heap.size _ rfl rfl XC.out.b0 (by rw [List.size_toArray, nums_length, takeL_len]; kernel_rfl) (by rw [List.size_toArray, nums_length, HH.out, List.size_toArray, nums_length, takeL_len]) (nums_all _)
      refine hK.out _ _ ?_
      clear hK K
      refine done_ (by kernel_rfl) ?_

      have hR : takeL h (pad s) (IntKind.u64.wrap (n + s.size)) true = R := by
        have e := HR.out
        rw [digH, if_neg hlt] at e
        exact e.symm
      have XS := XC.out.set_ (h' := takeL h (pad s) (IntKind.u64.wrap (n + s.size)) true)
      rw [hR] at XS ⊢
      have LR : Aside0 (R.length = 8) := ⟨by rw [← hR]; exact takeL_len _ _ _ _⟩
      generalize hwz : w4.setRow w.heap.size (nums .u32 R).toArray = wz at XS ⊢
      clear hHeld hwz XC XB X hR HR HH hk hlt hb1 hb2 hb3 HP
      have Y : Aside0 (D2 w (wz.alloc (.cells (nums .u8 (outL R 0)).toArray 29)) wz.heap.size R 0) := ⟨XS.start⟩
      have B0 := XS.b0.alloc (.cells (nums .u8 (outL R 0)).toArray 29)
      generalize hwy : wz.alloc (.cells (nums .u8 (outL R 0)).toArray 29) = wy at Y B0
      have HWY := Aside0.mk hwy
      have B0 := Aside0.mk B0
      clear hwy XS
      go_wp2_with (first | (refine wpList_load_row rfl 76 (.tmp 2) rfl w.heap.size rfl 76 _ (0, 0) _ (by rw [show (wz.alloc (.cells #[.int .u8 0, .int .u8 0, .int .u8 0, .int .u8 0, .int .u8 0, .int .u8 0, .int .u8 0, .int .u8 0, .int .u8 0, .int .u8 0, .int .u8 0, .int .u8 0, .int .u8 0, .int .u8 0, .int .u8 0, .int .u8 0, .int .u8 0, .int .u8 0, .int .u8 0, .int .u8 0, .int .u8 0, .int .u8 0, .int .u8 0, .int .u8 0, .int .u8 0, .int .u8 0, .int .u8 0, .int .u8 0, .int .u8 0, .int .u8 0, .int .u8 0, .int .u8 0] 29)) = wy from HWY.out]; exact B0.out) Try.underlying76 rfl (by rw [List.size_toArray, nums_length, LR.out]; kernel_rfl) ?_))
      rw [show (wz.alloc (.cells #[.int .u8 0, .int .u8 0, .int .u8 0, .int .u8 0, .int .u8 0, .int .u8 0, .int .u8 0, .int .u8 0, .int .u8 0, .int .u8 0, .int .u8 0, .int .u8 0, .int .u8 0, .int .u8 0, .int .u8 0, .int .u8 0, .int .u8 0, .int .u8 0, .int .u8 0, .int .u8 0, .int .u8 0, .int .u8 0, .int .u8 0, .int .u8 0, .int .u8 0, .int .u8 0, .int .u8 0, .int .u8 0, .int .u8 0, .int .u8 0, .int .u8 0, .int .u8 0] 29)) = wy from HWY.out]
      clear HWY B0
      generalize wz.heap.size = go at Y ⊢
      go_loopg [37] 8 (fun gk v37 wr => ∃ k : Nat, v37 = .int .i64 k ∧ Aside0 (k + gk = 8) ∧ Aside0 (D2 w wr go R (4 * k)))
      case atStart => exact ⟨0, rfl, ⟨rfl⟩, Y⟩
      case round =>
        clear Y
        obtain ⟨k, rfl, hk, Y⟩ := hrel
        by_cases hk8 : k < 8
        · have b1 := eq_true (show (k : Int) < 8 by omega)
          have hix := run_index_nums k hk8 LR.out
          have hx := Aside0.mk (show outAt R (4 * k) = outAt R (4 * k) from rfl)
          have hf : ∀ j : Nat, j < 4 → outAt R (4 * k + j) = R.getD k 0 / 2 ^ (8 * j) % 256 := by
            intro j hj
            unfold outAt
            rw [show (4 * k + j) / 4 = k by omega, show (4 * k + j) % 4 = j by omega]
          have HF := Aside0.mk hf
          clear hf hx
          generalize R.getD k 0 = x at hix HF
          go_wp2_with fail
          go_loopg [41] 4 (fun gi v41 wi => ∃ j : Nat, v41 = .int .i64 j ∧ Aside0 (j + gi = 4) ∧ Aside0 (D2 w wi go R (4 * k + j)))
          case atStart => exact ⟨0, rfl, ⟨rfl⟩, Y⟩
          case round =>
            clear Y
            obtain ⟨j, rfl, hj, Y⟩ := hrel
            by_cases hj4 : j < 4
            · have c1 := eq_true (show (j : Int) < 4 by omega)
              have c2 : IntKind.i64.wrap (4 * (k : Int)) = 4 * (k : Int) := IntWalk.i64_in _ (by omega)
              have c3 : IntKind.i64.wrap (4 * (k : Int) + j) = 4 * (k : Int) + j := IntWalk.i64_in _ (by omega)
              have c4 : IntKind.i64.wrap (8 * (j : Int)) = 8 * (j : Int) := IntWalk.i64_in _ (by omega)
              have f1 := Y.out.b2.frozen (4 * k + j)
              have q1 : wr.cell? ⟨go, 4 * k + j, none⟩ = some (.int .u8 ((outL R (4 * k + j)).getD (4 * k + j) 0)) := (Y.out.b2.cell (4 * k + j)).trans (nums_get8 (by rw [outL_len]; omega))
              have c5 := eq_true (show 4 * (k : Int) + j < 32 by omega)
              have c6 := eq_true (show 0 ≤ 4 * (k : Int) + j by omega)
              have c7 : (4 * (k : Int) + j).toNat = 4 * k + j := by omega
              have YS := Aside0.mk (Y.out.step (by omega))
              go_wp2_with fail
              go_roundg (3 - j)
              case measure => have := hj.out; omega
              case rel =>
                have z := YS.out
                rw [HF.out j hj4] at z
                exact ⟨j + 1, by go_num, ⟨by have := hj.out; omega⟩, ⟨z⟩⟩
            · obtain rfl : j = 4 := by have := hj.out; omega
              clear hj4 hj
              go_wp2_with fail
              go_roundg (7 - k)
              case measure => have := hk.out; omega
              case rel => exact ⟨k + 1, by go_num, ⟨by have := hk.out; omega⟩, Y⟩
        · obtain rfl : k = 8 := by have := hk.out; omega
          have Z := Y.out
          clear hk8 hk Y
          have b2 := Aside0.mk Z.b2
          have b1 := Aside0.mk Z.b1
          go_wp2_with (first | (refine wpList_load_row rfl 29 (.tmp 6) rfl go rfl 29 _ (0, 0) _ b2.out Try.underlying29 rfl (by rw [List.size_toArray, nums_length, outL_len]; kernel_rfl) ?_) | (refine wpList_store_row rfl 29 (.tmp 4) (.tmp 56) rfl (w.heap.size + 1) _ rfl rfl 29 _ b1.out (by rw [List.size_toArray, nums_length, outL_len]; kernel_rfl) (by rw [List.size_toArray, nums_length, outL_len, List.size_toArray, nums_length, outL_len]) (nums_all8 _) ?_))
          exact bodyPost_ret (results_cell_row (p := 4) (ty := 29) rfl _ _ (w.heap.size + 1) 29 _ (0, 0) _ rfl (Z.b1.setRow_ _) Try.underlying29 rfl (by rw [List.size_toArray, nums_length, outL_len]; kernel_rfl)) rfl ⟨rfl, below_setRow' Z.below (by omega) _⟩
end Go.Proofs.Ytoljjgabgdifbaa.H
