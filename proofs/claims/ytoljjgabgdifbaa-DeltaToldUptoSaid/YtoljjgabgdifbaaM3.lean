/- Layer 35's answer: what became of an image; two deltas compared. -/
import Derived.Test.YtoljjgabgdifbaaM1
import Derived.Test.YtoljjgabgdifbaaH10
import Derived.Test.YtoljjgabgdifbaaG2
import Derived.Test.YtoljjgabgdifbaaM2
import Derived.Test.YtoljjgabgdifbaaH13
import Derived.Test.YtoljjgabgdifbaaH14
import Derived.Deep.MidRow
import Derived.Stop.BytesEq
namespace Go.Proofs.Ytoljjgabgdifbaa.H
open Go.RowKit Go.Proofs.YtoljjgabgdifbaaW.PrintWords Go.Proofs.YtoljjgabgdifbaaW.PrintLast Go.Proofs.YtoljjgabgdifbaaW.PrintMore
set_option linter.unusedVariables false
set_option linter.unusedSimpArgs false

theorem nums_one_byte (b : UInt8) : strOfNums [(b.toNat : Int)] = ⟨#[b]⟩ := by
  simp [strOfNums]
theorem lenB_len : ∀ (k n : Nat), n < k → (lenB n).length ≤ n + 1
  | k + 1, n, h => by
    rw [lenB]
    split
    · have := lenB_len k (n / 128) (by omega)
      rw [List.length_cons]
      omega
    · simp
theorem wrap_succ' {i n : Nat} (h : i < n) (hn : n ≤ 5864062014805) : wrap64 ((i : Int) + 1) = ((i + 1 : Nat) : Int) := by
  rw [← i64_w, IntWalk.i64_in _ (by omega)]
  omega
theorem len_f : ∀ (k n : Nat), n < k → n ≤ 140737488355328 → hibernacleref01_length.f k (n : Int) = some ⟨(lenB n).toArray⟩ := by
  intro k
  induction k with
  | zero => intro n h; omega
  | succ k ih =>
    intro n h hn
    rw [hibernacleref01_length.f]
    by_cases c : 128 ≤ n
    · rw [if_neg (show ¬ (n : Int) < 128 by omega), Option.bind_some]
      have e1 : wrap64 (Int.tdiv (n : Int) 128) = ((n / 128 : Nat) : Int) := by
        rw [Int.tdiv_eq_ediv_of_nonneg (by omega)]
        rw [← i64_w, IntWalk.i64_in _ (by omega)]
        omega
      rw [e1, ih (n / 128) (by omega) (by omega), Option.bind_some]
      have e2 : (wrap64 (Int.tmod (n : Int) 128 + 128)) % 256 = ((UInt8.ofNat (n % 128 + 128)).toNat : Int) := by
        rw [Int.tmod_eq_emod_of_nonneg (by omega), ← i64_w, IntWalk.i64_in _ (by omega), UInt8.toNat_ofNat']
        omega
      rw [e2, nums_one_byte, lenB.eq_def n, if_pos c]
      have hl := lenB_len (n / 128 + 1) (n / 128) (by omega)
      have z1 : (ByteArray.mk #[UInt8.ofNat (n % 128 + 128)]).size = 1 := rfl
      have z2 : (ByteArray.mk (lenB (n / 128)).toArray).size = (lenB (n / 128)).length := by show (lenB (n / 128)).toArray.size = _; simp
      rw [z1, z2, if_pos (by omega)]
      rfl
    · rw [if_pos (show (n : Int) < 128 by omega), lenB, if_neg c]
      have e2 : (n : Int) % 256 = ((UInt8.ofNat n).toNat : Int) := by
        rw [UInt8.toNat_ofNat']
        omega
      rw [e2, nums_one_byte]
theorem row_l0 (l : List ByteArray) (hl : l.length ≤ 5864062014805) (hL : (rowB l).length ≤ 140737488355328) : ∀ (d i k : Nat), i + d = l.length → d + 140737488355328 < k → hibernacleref01_Row.l0 k ⟨(rowB (l.take i)).toArray⟩ l (l.length : Int) (i : Int) = some ⟨(rowB l).toArray⟩
  | 0, i, k, h, hk => by
    obtain ⟨k, rfl⟩ : ∃ m, k = m + 1 := ⟨k - 1, by omega⟩
    rw [hibernacleref01_Row.l0, if_neg (by omega), List.take_of_length_le (by omega)]
  | d + 1, i, k, h, hk => by
    obtain ⟨k, rfl⟩ : ∃ m, k = m + 1 := ⟨k - 1, by omega⟩
    have hi : i < l.length := by omega
    have er : rdOf ByteArray.empty l (i : Int) = l[i] := by simp [rdOf, List.getElem?_eq_getElem hi]
    have et : rowB (l.take (i + 1)) = rowB (l.take i) ++ (lenB l[i].size ++ l[i].data.toList) := by
      rw [List.take_add_one, List.getElem?_eq_getElem hi, rowB_append]
      simp [rowB]
    have ea : rowB l = rowB (l.take (i + 1)) ++ rowB (l.drop (i + 1)) := by rw [← rowB_append, List.take_append_drop]
    have hlen : (rowB (l.take i)).length + ((lenB l[i].size).length + l[i].size) ≤ 140737488355328 := by
      have := congrArg List.length ea
      rw [et] at this
      simp only [List.length_append, Array.length_toList] at this
      have e3 : l[i].data.size = l[i].size := rfl
      omega
    rw [hibernacleref01_Row.l0, if_pos (by omega), if_pos (by omega), if_pos (by omega), er, len_f k _ (by omega) (by omega), Option.bind_some]
    have z2 : ∀ x : List UInt8, (ByteArray.mk x.toArray).size = x.length := fun x => by show x.toArray.size = _; simp
    rw [z2, if_pos (by omega), ByteArray.size_append, z2, z2, if_pos (by omega), wrap_succ' (show i < l.length by omega) hl]
    have eb : (ByteArray.mk (rowB (l.take i)).toArray) ++ ((ByteArray.mk (lenB l[i].size).toArray) ++ l[i]) = ByteArray.mk (rowB (l.take (i + 1))).toArray := by
      apply ByteArray.ext
      rw [et]
      simp [ByteArray.data_append]
    rw [eb]
    exact row_l0 l hl hL d (i + 1) k (by omega) (by omega)
theorem row_f (l : List ByteArray) (hl : l.length ≤ 5864062014805) (hL : (rowB l).length ≤ 140737488355328) {k : Nat} (hk : l.length + 140737488355328 < k) : hibernacleref01_Row.f k l = some ⟨(rowB l).toArray⟩ := by
  unfold hibernacleref01_Row.f
  exact row_l0 l hl hL l.length 0 k (by omega) hk
theorem bytes_f (f0 f1 : List ByteArray) (s : ByteArray) (h0 : f0.length ≤ 5864062014805) (h1 : f1.length ≤ 5864062014805) (hL : (imageL f0 f1 s).length ≤ 140737488355328) : hibernacleref32_Bytes.f 281474976710656 f0 f1 s = some ⟨(imageL f0 f1 s).toArray⟩ := by
  have hl := imageL_len f0 f1 s
  unfold hibernacleref32_Bytes.f
  rw [row_f f0 h0 (by omega) (by omega), Option.bind_some, row_f f1 h1 (by omega) (by omega), Option.bind_some, show (⟨#[104, 105, 98, 105]⟩ : ByteArray) = hibi from rfl, row_f _ (by simp) hL (by simp), Option.bind_some]
  rfl
theorem rbytes_calls (A0 : Option Addr) (c0 : Nat) (f0 : List ByteArray) (A1 : Option Addr) (c1 : Nat) (f1 : List ByteArray) (s : ByteArray) (w : World) (h0 : Kd.C Kd.string w A0 f0.length f0) (l0 : f0.length ≤ c0) (h1 : Kd.C Kd.string w A1 f1.length f1) (l1 : f1.length ≤ c1)
    (hm : f0.length ≤ 5864062014805 ∧ f1.length ≤ 5864062014805) (hL : (imageL f0 f1 s).length ≤ 140737488355328) :
    Calls Try.prog 28 #[.agg #[.slice A0 f0.length c0, .slice A1 f1.length c1, .string s]] w fun e w' => e = .returned (.string ⟨(imageL f0 f1 s).toArray⟩) ∧ Below w.heap.size w w' :=
  hibernacleref32_Bytes.calls 281474976710656 A0 c0 f0 A1 c1 f1 s _ w h0 l0 h1 l1 (bytes_f f0 f1 s hm.1 hm.2 hL)
set_option maxRecDepth 100000 in
set_option maxHeartbeats 8000000 in
theorem rimageSum_calls (A0 : Option Addr) (c0 : Nat) (f0 : List ByteArray) (A1 : Option Addr) (c1 : Nat) (f1 : List ByteArray) (s : ByteArray) (w : World) (h0 : Kd.C Kd.string w A0 f0.length f0) (l0 : f0.length ≤ c0) (h1 : Kd.C Kd.string w A1 f1.length f1) (l1 : f1.length ≤ c1)
    (hm : f0.length ≤ 5864062014805 ∧ f1.length ≤ 5864062014805) (hL : (imageL f0 f1 s).length ≤ 140737488355328) :
    Calls Try.prog 25 #[.agg #[.slice A0 f0.length c0, .slice A1 f1.length c1, .string s]] w fun e w' => e = .returned (.agg (nums .u8 (imgSum f0 f1 s)).toArray) ∧ Below w.heap.size w w' := by
  have B0 := Blk.new w 24 #[.slice A0 f0.length c0, .slice A1 f1.length c1, .string s]
  have W0 := (Below.refl w.heap.size w).alloc (Nat.le_refl _) (.cells #[.slice A0 f0.length c0, .slice A1 f1.length c1, .string s] 24)
  have D0 := Blk.new (w.alloc (.cells #[.slice A0 f0.length c0, .slice A1 f1.length c1, .string s] 24)) 29 (nums .u8 (outL [] 0)).toArray
  have B0 := Aside0.mk (B0.alloc (.cells (nums .u8 (outL [] 0)).toArray 29))
  have W0 := Aside0.mk (W0.alloc (by rw [sz]; omega) (.cells (nums .u8 (outL [] 0)).toArray 29))
  rw [sz] at D0
  have D0 := Aside0.mk D0
  generalize hw0 : (w.alloc (.cells #[.slice A0 f0.length c0, .slice A1 f1.length c1, .string s] 24)).alloc (.cells (nums .u8 (outL [] 0)).toArray 29) = w0 at B0 W0 D0
  have HW0 := Aside0.mk hw0
  clear hw0
  go_enter Try.func25, Try.ntmps25
  go_wp2_with (rw [show ((w.alloc (.cells #[.slice A0 f0.length c0, .slice A1 f1.length c1, .string s] 24)).alloc (.cells #[.int .u8 0, .int .u8 0, .int .u8 0, .int .u8 0, .int .u8 0, .int .u8 0, .int .u8 0, .int .u8 0, .int .u8 0, .int .u8 0, .int .u8 0, .int .u8 0, .int .u8 0, .int .u8 0, .int .u8 0, .int .u8 0, .int .u8 0, .int .u8 0, .int .u8 0, .int .u8 0, .int .u8 0, .int .u8 0, .int .u8 0, .int .u8 0, .int .u8 0, .int .u8 0, .int .u8 0, .int .u8 0, .int .u8 0, .int .u8 0, .int .u8 0, .int .u8 0] 29)) = w0 from HW0.out]; (refine wpList_load_row rfl 24 (.tmp 1) rfl w.heap.size rfl 24 _ (0, 0) _ B0.out Try.underlying24 rfl (by kernel_rfl) ?_))
  go_wp2_with ((with_reducible refine (rbytes_calls A0 c0 f0 A1 c1 f1 s w0 (Kd.C_below h0 W0.out) l0 (Kd.C_below h1 W0.out) l1 hm hL).mono ?_); rintro e w1 ⟨rfl, hb⟩; have W1 := Aside0.mk (below_then W0.out W0.out.size hb); have D1 := Aside0.mk (D0.out.below hb D0.out.lt); clear hb)
  have W2 := W1.out.alloc (by have := W1.out.size; omega) (.cells #[.string ⟨(imageL f0 f1 s).toArray⟩] 9)
  have D2 := D1.out.alloc (.cells #[.string ⟨(imageL f0 f1 s).toArray⟩] 9)
  have S2 := (Blk.new w1 9 #[.string ⟨(imageL f0 f1 s).toArray⟩])
  generalize w1.alloc (.cells #[.string ⟨(imageL f0 f1 s).toArray⟩] 9) = w2 at W2 D2 S2 ⊢
  generalize w1.heap.size = g at S2 ⊢
  have S2l := S2.lt
  have W2 := Aside0.mk W2
  have D2 := Aside0.mk D2
  have S2 : Aside0 (w2.cell? ⟨g, 0, none⟩ = some (.string ⟨(imageL f0 f1 s).toArray⟩)) := ⟨S2.cell 0⟩
  have hL3 : (ByteArray.mk (imageL f0 f1 s).toArray).size ≤ 140737488355328 := by show (imageL f0 f1 s).toArray.size ≤ _; rw [List.size_toArray]; exact hL
  go_wp2_with (first | ((with_reducible refine (rsum_calls g 0 1 ⟨(imageL f0 f1 s).toArray⟩ w2 S2.out S2l hL3 (Nat.le_refl _)).mono ?_); rintro e w3 ⟨rfl, hb⟩; have W3 := Aside0.mk (below_then W2.out W2.out.size hb); have D3 := Aside0.mk (D2.out.below hb D2.out.lt); clear hb) | (refine wpList_store_row rfl 29 (.tmp 2) (.tmp 6) rfl (w.heap.size + 1) _ rfl rfl 29 _ D3.out (by rw [List.size_toArray, nums_length, sumL_len]; kernel_rfl) (by rw [List.size_toArray, nums_length, outL_len, List.size_toArray, nums_length, sumL_len]) (nums_all8 _) ?_))
  exact bodyPost_ret (results_cell_row (p := 2) (ty := 29) rfl _ _ (w.heap.size + 1) 29 _ (0, 0) _ rfl (D3.out.setRow_ _) Try.underlying29 rfl (by rw [List.size_toArray, nums_length, sumL_len]; kernel_rfl)) rfl ⟨rfl, below_setRow' W3.out (by omega) _⟩
end Go.Proofs.Ytoljjgabgdifbaa.H
namespace Go.Proofs.Ytoljjgabgdifbaa.H
open Go.RowKit Go.Proofs.YtoljjgabgdifbaaW.PrintWords Go.Proofs.YtoljjgabgdifbaaW.PrintLast Go.Proofs.YtoljjgabgdifbaaW.PrintMore
set_option linter.unusedVariables false
set_option linter.unusedSimpArgs false

/-- A digest's numbers. -/
structure Dig (L : List Int) : Prop where
  len : L.length = 32
  rg : ∀ v ∈ L, 0 ≤ v ∧ v < 256
theorem outL_dig (h : List Int) : Dig (outL h 32) := by
  refine ⟨outL_len _ _, fun v hv => ?_⟩
  simp only [outL, List.mem_map] at hv
  obtain ⟨i, _, rfl⟩ := hv
  split
  · unfold outAt
    omega
  · omega
theorem sumL_dig (s : ByteArray) : Dig (sumL s) := outL_dig _
theorem imgSum_dig (f0 f1 : List ByteArray) (s : ByteArray) : Dig (imgSum f0 f1 s) := sumL_dig _
def byteL (L : List Int) : List UInt8 := L.map fun n => UInt8.ofNat n.toNat
theorem byteL_cells {L : List Int} (h : ∀ v ∈ L, 0 ≤ v ∧ v < 256) : nums .u8 L = (byteL L).map Extern.Stop.cell := by
  simp only [nums, byteL, List.map_map]
  apply List.map_congr_left
  intro v hv
  have := h v hv
  simp only [Function.comp, Extern.Stop.cell, UInt8.toNat_ofNat']
  rw [show Int.ofNat (v.toNat % 2 ^ 8) = v from by show ((v.toNat % 2 ^ 8 : Nat) : Int) = v; omega]
theorem byteL_inj {L M : List Int} (hL : ∀ v ∈ L, 0 ≤ v ∧ v < 256) (hM : ∀ v ∈ M, 0 ≤ v ∧ v < 256) (h : byteL L = byteL M) : L = M := by
  have e : ∀ L : List Int, (∀ v ∈ L, 0 ≤ v ∧ v < 256) → (byteL L).map (fun b => (b.toNat : Int)) = L := by
    intro L hL
    simp only [byteL, List.map_map]
    rw [List.map_congr_left (g := id)]
    · simp
    · intro v hv
      have := hL v hv
      simp only [Function.comp, UInt8.toNat_ofNat', id]
      omega
  rw [← e L hL, ← e M hM, h]
/-- Two digests are the same just if their numbers are. -/
theorem eq_dig {L M : List Int} (hL : Dig L) (hM : Dig M) (w : World) : (Op.equalIn 10000 29 (.agg (nums .u8 L).toArray) (.agg (nums .u8 M).toArray)).run Try.prog w = .ok (decide (L = M)) w := by
  rw [byteL_cells hL.rg, byteL_cells hM.rg, run_equalIn_bytes w 9998 29 5 32 Try.underlying29 Try.underlying5 (fun w => Try.sizeOf5 w) (byteL L) (byteL M) (by simp [byteL, hL.len]) (by simp [byteL, hM.len])]
  congr 1
  rw [Bool.eq_iff_iff, beq_iff_eq, decide_eq_true_iff]
  exact ⟨fun h => byteL_inj hL.rg hM.rg h, fun h => by rw [h]⟩
theorem same_l0 (r : List S36) (hr : r.length ≤ 5864062014805) : ∀ (d i k : Nat), i + d = r.length → d < k → hibernacleref35_sameWrites.l0 k r r (i : Int) = some true
  | 0, i, k, h, hk => by
    obtain ⟨k, rfl⟩ : ∃ m, k = m + 1 := ⟨k - 1, by omega⟩
    rw [hibernacleref35_sameWrites.l0, if_neg (by omega)]
  | d + 1, i, k, h, hk => by
    obtain ⟨k, rfl⟩ : ∃ m, k = m + 1 := ⟨k - 1, by omega⟩
    rw [hibernacleref35_sameWrites.l0, if_pos (by omega), if_pos (by omega), if_pos (by omega), if_neg (by simp), wrap_succ (show i < r.length by omega) hr]
    exact same_l0 r hr d (i + 1) k (by omega) (by omega)
theorem same_f (r : List S36) (hr : r.length ≤ 5864062014805) : hibernacleref35_sameWrites.f (r.length + 1) r r = some true := by
  unfold hibernacleref35_sameWrites.f
  rw [if_pos rfl]
  exact same_l0 r hr r.length 0 _ (by omega) (by omega)
theorem dArr_range (w : World) (g : Nat) (L M : List Int) (hL : L.length = 32) (hM : M.length = 32) (v1 v2 : Value) (s : ByteArray) (h : Blk w g 32 (dArr L v1 v2 s M)) : w.rangeAt g 0 (nums .u8 L) ∧ w.rangeAt g 35 (nums .u8 M) := by
  have n0 : (nums .u8 L).length = 32 := by rw [nums_length]; exact hL
  constructor
  · intro j v hj
    have hlt : j < 32 := by rw [← n0]; exact (List.getElem?_eq_some_iff.1 hj).1
    rw [Nat.zero_add, h.cell, ← hj]
    unfold dArr
    rw [List.getElem?_toArray, List.append_assoc, List.getElem?_append_left (by omega)]
  · intro j v hj
    rw [h.cell, ← hj]
    unfold dArr
    rw [List.getElem?_toArray, List.getElem?_append_right (by simp [n0]), List.length_append, n0]
    congr 1
    simp
theorem dArr_mid (L M : List Int) (hL : L.length = 32) (v1 v2 : Value) (s : ByteArray) : (dArr L v1 v2 s M)[32]? = some v1 ∧ (dArr L v1 v2 s M)[33]? = some v2 ∧ (dArr L v1 v2 s M)[34]? = some (.string s) := by
  have n0 : (nums .u8 L).length = 32 := by rw [nums_length]; exact hL
  unfold dArr
  rw [List.getElem?_toArray, List.getElem?_toArray, List.getElem?_toArray, List.append_assoc]
  refine ⟨?_, ?_, ?_⟩
  · rw [List.getElem?_append_right (by omega), n0]; rfl
  · rw [List.getElem?_append_right (by omega), n0]; rfl
  · rw [List.getElem?_append_right (by omega), n0]; rfl

theorem wpList_load_midg {ops : Array Oper} {rest : List Oper} {op : Oper} {a : Act} {w : World} {Q : Exit → Act → World → Prop} (hw : Region.wanted op (yielded ops a.tmps) = true) (ty : TypeId) (x : Operand) (ho : op.op = .load ty x)
    (b o : Nat) (hx : a.eval x = .pointer (some ⟨b, o, none⟩)) (cs : Array Value) (hc : (Instr.loadAt ty (.pointer (some ⟨b, o, none⟩))).run Try.prog w = .ok (.agg cs) w)
    (h : wpList Try.prog ops Q rest (a.put op.dst (.agg cs)) w) : wpList Try.prog ops Q (op :: rest) a w :=
  wpList_step fun K hK => by
    rw [if_pos hw]
    unfold Oper.wp execOp
    simp only [ho, hx, hc, Sem.run_bind, Sem.run_pure, Result.andThen_ok]
    exact hK _ _ h
set_option maxRecDepth 100000 in
set_option maxHeartbeats 8000000 in
theorem same_calls (L M : List Int) (hL : Dig L) (hM : Dig M) (A1 : Option Addr) (c1 : Nat) (A2 : Option Addr) (c2 : Nat) (B1 : Option Addr) (d1 : Nat) (B2 : Option Addr) (d2 : Nat) (r1 r2 : List S36) (s : ByteArray) (w : World)
    (h1 : Kd.C k36 w A1 r1.length r1) (k1 : r1.length ≤ c1) (h2 : Kd.C k36 w A2 r2.length r2) (k2 : r2.length ≤ c2) (h3 : Kd.C k36 w B1 r1.length r1) (k3 : r1.length ≤ d1) (h4 : Kd.C k36 w B2 r2.length r2) (k4 : r2.length ≤ d2)
    (m1 : r1.length ≤ 5864062014805) (m2 : r2.length ≤ 5864062014805) :
    Calls Try.prog 10 #[.agg (dArr L (.slice A1 r1.length c1) (.slice A2 r2.length c2) s M), .agg (dArr L (.slice B1 r1.length d1) (.slice B2 r2.length d2) s M)] w fun e w' => e = .returned (.bool true) ∧ Below w.heap.size w w' := by
  have BA := (Blk.new w 32 (dArr L (.slice A1 r1.length c1) (.slice A2 r2.length c2) s M)).alloc (.cells (dArr L (.slice B1 r1.length d1) (.slice B2 r2.length d2) s M) 32)
  have BB := Blk.new (w.alloc (.cells (dArr L (.slice A1 r1.length c1) (.slice A2 r2.length c2) s M) 32)) 32 (dArr L (.slice B1 r1.length d1) (.slice B2 r2.length d2) s M)
  have W0 := ((Below.refl w.heap.size w).alloc (Nat.le_refl _) (.cells (dArr L (.slice A1 r1.length c1) (.slice A2 r2.length c2) s M) 32)).alloc (by simp) (.cells (dArr L (.slice B1 r1.length d1) (.slice B2 r2.length d2) s M) 32)
  rw [sz] at BB
  generalize hw0 : ((w.alloc (.cells (dArr L (.slice A1 r1.length c1) (.slice A2 r2.length c2) s M) 32)).alloc (.cells (dArr L (.slice B1 r1.length d1) (.slice B2 r2.length d2) s M) 32)) = w0 at BA BB W0
  have HW0 := Aside0.mk hw0
  clear hw0
  obtain ⟨ra1, ra2⟩ := dArr_range w0 _ L M hL.len hM.len _ _ s BA
  obtain ⟨rb1, rb2⟩ := dArr_range w0 _ L M hL.len hM.len _ _ s BB
  have n1 : (nums .u8 L).length = 32 := by rw [nums_length]; exact hL.len
  have n2 : (nums .u8 M).length = 32 := by rw [nums_length]; exact hM.len
  have l1 := run_loadAt_mid (P := Try.prog) w0 _ 0 29 _ _ ra1 Try.underlying29 rfl (by rw [n1]; kernel_rfl)
  have l2 := run_loadAt_mid (P := Try.prog) w0 _ 35 29 _ _ ra2 Try.underlying29 rfl (by rw [n2]; kernel_rfl)
  have l3 := run_loadAt_mid (P := Try.prog) w0 _ 0 29 _ _ rb1 Try.underlying29 rfl (by rw [n1]; kernel_rfl)
  have l4 := run_loadAt_mid (P := Try.prog) w0 _ 35 29 _ _ rb2 Try.underlying29 rfl (by rw [n2]; kernel_rfl)
  have l1 := Aside0.mk l1
  have l2 := Aside0.mk l2
  have l3 := Aside0.mk l3
  have l4 := Aside0.mk l4
  have q1 := eq_dig hL hL
  have q2 := eq_dig hM hM
  simp only [decide_true] at q1 q2
  obtain ⟨a1, a2, a3⟩ := dArr_mid L M hL.len (.slice A1 r1.length c1) (.slice A2 r2.length c2) s
  obtain ⟨b1, b2, b3⟩ := dArr_mid L M hL.len (.slice B1 r1.length d1) (.slice B2 r2.length d2) s
  have a1 := (BA.cell 32).trans a1
  have a2 := (BA.cell 33).trans a2
  have a3 := (BA.cell 34).trans a3
  have b1 := (BB.cell 32).trans b1
  have b2 := (BB.cell 33).trans b2
  have b3 := (BB.cell 34).trans b3
  have DL := Aside0.mk hL
  have DM := Aside0.mk hM
  have RA1 := Aside0.mk ra1
  have RB1 := Aside0.mk rb1
  have N1 := Aside0.mk n1
  have W0 := Aside0.mk W0
  clear ra1 ra2 rb1 rb2 n1 n2 BA BB hL hM
  generalize (nums .u8 L).toArray = LA at l1 l3 q1
  generalize (nums .u8 M).toArray = MA at l2 l4 q2
  go_enter Try.func10, Try.ntmps10
  go_wp2_with (first | rw [show ((w.alloc (.cells (dArr L (.slice A1 r1.length c1) (.slice A2 r2.length c2) s M) 32)).alloc (.cells (dArr L (.slice B1 r1.length d1) (.slice B2 r2.length d2) s M) 32)) = w0 from HW0.out] | (refine wpList_load_midg (by rfl) 29 (.tmp 5) rfl w.heap.size 0 rfl _ l1.out ?_) | (refine wpList_load_midg (by rfl) 29 (.tmp 7) rfl (w.heap.size + 1) 0 rfl _ l3.out ?_) | (refine wpList_load_midg (by rfl) 29 (.tmp 11) rfl w.heap.size 35 rfl _ l2.out ?_) | (refine wpList_load_midg (by rfl) 29 (.tmp 13) rfl (w.heap.size + 1) 35 rfl _ l4.out ?_))
  refine (hibernacleref35_sameWrites.calls _ A1 c1 r1 B1 d1 r1 true w0 (Kd.C_below h1 W0.out) k1 (Kd.C_below h3 W0.out) k3 (same_f r1 m1)).mono ?_
  rintro e w' ⟨rfl, ⟨n, rfl⟩⟩
  go_wp2_with fail
  refine (hibernacleref35_sameWrites.calls _ A2 c2 r2 B2 d2 r2 true _ (Kd.C_below h2 (pw_below_drewN W0.out n)) k2 (Kd.C_below h4 (pw_below_drewN W0.out n)) k4 (same_f r2 m2)).mono ?_
  rintro e w' ⟨rfl, ⟨m, rfl⟩⟩
  go_wp2_with fail
  go_ret
  exact ⟨rfl, pw_below_drewN W0.out (n + m)⟩
end Go.Proofs.Ytoljjgabgdifbaa.H
namespace Go.Proofs.Ytoljjgabgdifbaa.H
open Go.RowKit Go.Proofs.YtoljjgabgdifbaaW.PrintWords Go.Proofs.YtoljjgabgdifbaaW.PrintLast Go.Proofs.YtoljjgabgdifbaaW.PrintMore
set_option linter.unusedVariables false
set_option linter.unusedSimpArgs false

theorem others_l0 (x y : List ByteArray) (hy : y.length ≤ 5864062014805) : ∀ (d i k : Nat), i + d = y.length → d < k → hibernacleref35_others.l0 k x y (chg x y i) (i : Int) = some (chg x y y.length)
  | 0, i, k, h, hk => by
    obtain ⟨k, rfl⟩ : ∃ m, k = m + 1 := ⟨k - 1, by omega⟩
    rw [hibernacleref35_others.l0, if_neg (by omega)]
    rw [show i = y.length by omega]
  | d + 1, i, k, h, hk => by
    obtain ⟨k, rfl⟩ : ∃ m, k = m + 1 := ⟨k - 1, by omega⟩
    have ih := others_l0 x y hy d (i + 1) k (by omega) (by omega)
    have hl := chg_len x y i
    rw [hibernacleref35_others.l0, if_pos (by omega), wrap_succ (show i < y.length by omega) hy, rdOf_at, rdOf_at]
    by_cases c : x.length ≤ i
    · rw [if_pos (by omega), if_pos (by omega), if_pos (by omega)]
      rw [chg, if_pos (by simp [unlike, c])] at ih
      exact ih
    · rw [if_neg (by omega), if_pos (by omega), if_pos (by omega)]
      by_cases e : (at_ x i).toList = (at_ y i).toList
      · rw [if_pos e]
        rw [chg, if_neg (by simp [unlike, c, e])] at ih
        exact ih
      · rw [if_neg e, if_pos (by omega)]
        rw [chg, if_pos (by simp [unlike, e])] at ih
        exact ih
theorem others_f (x y : List ByteArray) (hy : y.length ≤ 5864062014805) {k : Nat} (hk : y.length < k) : hibernacleref35_others.f k x y = some (chg x y y.length) := by
  unfold hibernacleref35_others.f
  exact others_l0 x y hy y.length 0 k (by omega) hk
set_option maxRecDepth 100000 in
set_option maxHeartbeats 8000000 in
theorem rof_calls (k : Nat) (A0 : Option Addr) (c0 : Nat) (A1 : Option Addr) (c1 : Nat) (a : S24) (P0 : Option Addr) (p0 : Nat) (P1 : Option Addr) (p1 : Nat) (b : S24) (r1 r2 : List S36) (w : World)
    (hA0 : Kd.C Kd.string w A0 a.f0.length a.f0) (ha0 : a.f0.length ≤ c0) (hA1 : Kd.C Kd.string w A1 a.f1.length a.f1) (ha1 : a.f1.length ≤ c1)
    (hP0 : Kd.C Kd.string w P0 b.f0.length b.f0) (hp0 : b.f0.length ≤ p0) (hP1 : Kd.C Kd.string w P1 b.f1.length b.f1) (hp1 : b.f1.length ≤ p1)
    (hLa : (imageL a.f0 a.f1 a.f2).length ≤ 140737488355328) (hLb : (imageL b.f0 b.f1 b.f2).length ≤ 140737488355328)
    (hma : a.f0.length ≤ 5864062014805 ∧ a.f1.length ≤ 5864062014805) (hmb : b.f0.length ≤ 5864062014805 ∧ b.f1.length ≤ 5864062014805)
    (hr1 : hibernacleref35_others.f k (aOf a b).f0 b.f0 = some r1) (hr2 : hibernacleref35_others.f k (aOf a b).f1 b.f1 = some r2) :
    Calls Try.prog 12 #[.agg #[.slice A0 a.f0.length c0, .slice A1 a.f1.length c1, .string a.f2], .agg #[.slice P0 b.f0.length p0, .slice P1 b.f1.length p1, .string b.f2]] w fun e w' => ∃ A1 c1 A2 c2, e = .returned (.agg (dArr (imgSum (aOf a b).f0 (aOf a b).f1 (aOf a b).f2) (.slice A1 r1.length c1) (.slice A2 r2.length c2) b.f2 (imgSum b.f0 b.f1 b.f2))) ∧ Kd.R k36 36 w' w.heap.size (fun _ => True) (.slice A1 r1.length c1) r1 ∧ Kd.R k36 36 w' w.heap.size (fun _ => True) (.slice A2 r2.length c2) r2 ∧ Below w.heap.size w w' := by
  have BA := Blk.new w 24 #[.slice A0 a.f0.length c0, .slice A1 a.f1.length c1, .string a.f2]
  have BB := Blk.new (w.alloc (.cells #[.slice A0 a.f0.length c0, .slice A1 a.f1.length c1, .string a.f2] 24)) 24 #[.slice P0 b.f0.length p0, .slice P1 b.f1.length p1, .string b.f2]
  have BD := Blk.new ((w.alloc (.cells #[.slice A0 a.f0.length c0, .slice A1 a.f1.length c1, .string a.f2] 24)).alloc (.cells #[.slice P0 b.f0.length p0, .slice P1 b.f1.length p1, .string b.f2] 24)) 32 (dArr (outL [] 0) (.slice none 0 0) (.slice none 0 0) ⟨#[]⟩ (outL [] 0))
  have BA := (BA.alloc (.cells #[.slice P0 b.f0.length p0, .slice P1 b.f1.length p1, .string b.f2] 24)).alloc (.cells (dArr (outL [] 0) (.slice none 0 0) (.slice none 0 0) ⟨#[]⟩ (outL [] 0)) 32)
  have BB := BB.alloc (.cells (dArr (outL [] 0) (.slice none 0 0) (.slice none 0 0) ⟨#[]⟩ (outL [] 0)) 32)
  have W0 := (((Below.refl w.heap.size w).alloc (Nat.le_refl _) (.cells #[.slice A0 a.f0.length c0, .slice A1 a.f1.length c1, .string a.f2] 24)).alloc (by simp) (.cells #[.slice P0 b.f0.length p0, .slice P1 b.f1.length p1, .string b.f2] 24)).alloc (by simp; omega) (.cells (dArr (outL [] 0) (.slice none 0 0) (.slice none 0 0) ⟨#[]⟩ (outL [] 0)) 32)
  rw [sz] at BB
  rw [sz, sz] at BD
  generalize hw0 : (((w.alloc (.cells #[.slice A0 a.f0.length c0, .slice A1 a.f1.length c1, .string a.f2] 24)).alloc (.cells #[.slice P0 b.f0.length p0, .slice P1 b.f1.length p1, .string b.f2] 24)).alloc (.cells (dArr (outL [] 0) (.slice none 0 0) (.slice none 0 0) ⟨#[]⟩ (outL [] 0)) 32)) = w0 at BA BB BD W0
  have HW0 := Aside0.mk hw0
  clear hw0
  have qa0 : w0.cell? ⟨w.heap.size, 0, none⟩ = some (.slice A0 a.f0.length c0) := BA.cell 0
  have qa1 : w0.cell? ⟨w.heap.size, 1, none⟩ = some (.slice A1 a.f1.length c1) := BA.cell 1
  have qb0 : w0.cell? ⟨w.heap.size + 1, 0, none⟩ = some (.slice P0 b.f0.length p0) := BB.cell 0
  have qb1 : w0.cell? ⟨w.heap.size + 1, 1, none⟩ = some (.slice P1 b.f1.length p1) := BB.cell 1
  have BA := Aside0.mk BA
  have BB := Aside0.mk BB
  have BD := Aside0.mk BD
  have W0 := Aside0.mk W0
  obtain ⟨x, hx⟩ : ∃ x, x = aOf a b := ⟨_, rfl⟩
  rw [← hx] at hr1 hr2 ⊢
  by_cases t1 : b.f0.length < a.f0.length
  · have tb := eq_true (show (b.f0.length : Int) < (a.f0.length : Int) by omega)
    have ex : x = ⟨[], [], ⟨#[]⟩⟩ := by rw [hx, aOf, if_pos (Or.inl t1)]
    go_enter Try.func12, Try.ntmps12
    go_wp2_with (first | (rw [show (((w.alloc (.cells #[.slice A0 a.f0.length c0, .slice A1 a.f1.length c1, .string a.f2] 24)).alloc (.cells #[.slice P0 b.f0.length p0, .slice P1 b.f1.length p1, .string b.f2] 24)).alloc (.cells Try.zeroCells32 32)) = w0 from (by rw [z32]; exact HW0.out)]) | (refine wpList_store_row rfl 24 (.tmp 2) (.tmp 21) rfl w.heap.size #[.slice none 0 0, .slice none 0 0, .string ⟨#[]⟩] rfl rfl 24 _ BA.out (by kernel_rfl) (by kernel_rfl) (by kernel_rfl) ?_))
    obtain ⟨X0, x0, X1, x1, hX0, hx0, hX1, hx1, BA0⟩ : ∃ X0 x0 X1 x1, Kd.C Kd.string w X0 x.f0.length x.f0 ∧ x.f0.length ≤ x0 ∧ Kd.C Kd.string w X1 x.f1.length x.f1 ∧ x.f1.length ≤ x1 ∧ Blk (w0.setRow w.heap.size #[.slice none 0 0, .slice none 0 0, .string ⟨#[]⟩]) w.heap.size 24 #[.slice X0 x.f0.length x0, .slice X1 x.f1.length x1, .string x.f2] := by
      rw [ex]
      exact ⟨none, 0, none, 0, Kd.C_nil _ _, Nat.le_refl _, Kd.C_nil _ _, Nat.le_refl _, BA.out.setRow_ _⟩
    have hLx : (imageL x.f0 x.f1 x.f2).length ≤ 140737488355328 := by rw [ex]; decide +kernel
    have hmx : x.f0.length ≤ 5864062014805 ∧ x.f1.length ≤ 5864062014805 := by rw [ex]; simp
    have BB0 := BB.out.setRow_far (k := w.heap.size) (by omega) #[.slice none 0 0, .slice none 0 0, .string ⟨#[]⟩]
    have BD0 := BD.out.setRow_far (k := w.heap.size) (by omega) #[.slice none 0 0, .slice none 0 0, .string ⟨#[]⟩]
    have W0 := below_setRow' W0.out (Nat.le_refl _) #[.slice none 0 0, .slice none 0 0, .string ⟨#[]⟩]
    generalize w0.setRow w.heap.size #[.slice none 0 0, .slice none 0 0, .string ⟨#[]⟩] = w2 at BA0 BB0 BD0 W0 ⊢
    clear ex hx qa0 qa1 qb0 qb1 HW0 BA BB BD
    have BA0 := Aside0.mk BA0.drew
    have BB0 := Aside0.mk BB0.drew
    have BD0 := Aside0.mk BD0.drew
    have W0 := Aside0.mk (below_drew W0)
    refine start_ (n := 18) (S := fun w' => Blk w' w.heap.size 24 #[.slice X0 x.f0.length x0, .slice X1 x.f1.length x1, .string x.f2] ∧ Blk w' (w.heap.size + 1) 24 #[.slice P0 b.f0.length p0, .slice P1 b.f1.length p1, .string b.f2] ∧ w'.cell? ⟨w.heap.size, 0, none⟩ = some (.slice X0 x.f0.length x0) ∧ w'.cell? ⟨w.heap.size, 1, none⟩ = some (.slice X1 x.f1.length x1) ∧ w'.cell? ⟨w.heap.size + 1, 0, none⟩ = some (.slice P0 b.f0.length p0) ∧ w'.cell? ⟨w.heap.size + 1, 1, none⟩ = some (.slice P1 b.f1.length p1) ∧ w'.cell? ⟨w.heap.size + 1, 2, none⟩ = some (.string b.f2)) (ds := [17]) #[false, false, false, false, false, false, false, false, false, false, false, false, false, false, false, false, false, false] (by kernel_rfl) rfl rfl ⟨BA0.out, BB0.out, (BA0.out.cell 0), (BA0.out.cell 1), (BB0.out.cell 0), (BB0.out.cell 1), (BB0.out.cell 2)⟩ (fun hHeld => ?_)
    refine pure_ (i := 2) (N := some 24) (v := ?_) (a' := ?_) #[false, false, true, false, false, false, false, false, false, false, false, false, false, false, false, false, false, false] rfl rfl (by kernel_rfl) (fun _ _ _ h => h) (Or.inl ⟨by rfl, ?_⟩) ?_ ?_
    rotate_left
    · intro w'
      go_simp
      with_reducible rfl
    rotate_left
    · simp only [Act.put, List.setIfInBounds_toArray, List.set_cons_zero, List.set_cons_succ, i64_w, i32_w]
      rfl
    refine pure_ (i := 4) (N := some 26) (v := ?_) (a' := ?_) #[false, false, true, false, true, false, false, false, false, false, false, false, false, false, false, false, false, false] rfl rfl (by kernel_rfl) (fun _ _ _ h => h) (Or.inl ⟨by rfl, ?_⟩) ?_ ?_
    rotate_left
    · intro w'
      go_simp
      with_reducible rfl
    rotate_left
    · simp only [Act.put, List.setIfInBounds_toArray, List.set_cons_zero, List.set_cons_succ, i64_w, i32_w]
      rfl
    refine pure_ (i := 7) (N := some 29) (v := ?_) (a' := ?_) #[false, false, true, false, true, false, false, true, false, false, false, false, false, false, false, false, false, false] rfl rfl (by kernel_rfl) (fun _ _ _ h => h) (Or.inl ⟨by rfl, ?_⟩) ?_ ?_
    rotate_left
    · intro w'
      go_simp
      with_reducible rfl
    rotate_left
    · simp only [Act.put, List.setIfInBounds_toArray, List.set_cons_zero, List.set_cons_succ, i64_w, i32_w]
      rfl
    refine pure_ (i := 9) (N := some 31) (v := ?_) (a' := ?_) #[false, false, true, false, true, false, false, true, false, true, false, false, false, false, false, false, false, false] rfl rfl (by kernel_rfl) (fun _ _ _ h => h) (Or.inl ⟨by rfl, ?_⟩) ?_ ?_
    rotate_left
    · intro w'
      go_simp
      with_reducible rfl
    rotate_left
    · simp only [Act.put, List.setIfInBounds_toArray, List.set_cons_zero, List.set_cons_succ, i64_w, i32_w]
      rfl
    refine pure_ (i := 12) (N := some 34) (v := ?_) (a' := ?_) #[false, false, true, false, true, false, false, true, false, true, false, false, true, false, false, false, false, false] rfl rfl (by kernel_rfl) (fun _ _ _ h => h) (Or.inl ⟨by rfl, ?_⟩) ?_ ?_
    rotate_left
    · intro w'
      go_simp
      with_reducible rfl
    rotate_left
    · simp only [Act.put, List.setIfInBounds_toArray, List.set_cons_zero, List.set_cons_succ, i64_w, i32_w]
      rfl
    refine take_ (i := 0) (N := some 22) (v := ?_) (a' := ?_) #[true, false, true, false, true, false, false, true, false, true, false, false, true, false, false, false, false, false] rfl rfl (by kernel_rfl) (fun _ _ _ h => h) (Or.inl ⟨by rfl, ?_⟩) hHeld ?_ ?_
    rotate_left
    · rintro w' ⟨s0, s1, s2, s3, s4, s5, s6⟩
      refine row_loads 24 (.tmp 2) ?_ w.heap.size ?_ s0 Try.underlying24 ?_ ?_
      · rfl
      · rfl
      · rfl
      · kernel_rfl
    rotate_left
    · simp only [Act.put, List.setIfInBounds_toArray, List.set_cons_zero, List.set_cons_succ, i64_w, i32_w]
      rfl
    refine take_ (i := 3) (N := some 25) (v := ?_) (a' := ?_) #[true, false, true, true, true, false, false, true, false, true, false, false, true, false, false, false, false, false] rfl rfl (by kernel_rfl) (fun _ _ _ h => h) (Or.inl ⟨by rfl, ?_⟩) hHeld ?_ ?_
    rotate_left
    · rintro w' ⟨s0, s1, s2, s3, s4, s5, s6⟩
      go_simp
      with_reducible rfl
    rotate_left
    · simp only [Act.put, List.setIfInBounds_toArray, List.set_cons_zero, List.set_cons_succ, i64_w, i32_w]
      rfl
    refine take_ (i := 5) (N := some 27) (v := ?_) (a' := ?_) #[true, false, true, true, true, true, false, true, false, true, false, false, true, false, false, false, false, false] rfl rfl (by kernel_rfl) (fun _ _ _ h => h) (Or.inl ⟨by rfl, ?_⟩) hHeld ?_ ?_
    rotate_left
    · rintro w' ⟨s0, s1, s2, s3, s4, s5, s6⟩
      go_simp
      with_reducible rfl
    rotate_left
    · simp only [Act.put, List.setIfInBounds_toArray, List.set_cons_zero, List.set_cons_succ, i64_w, i32_w]
      rfl
    refine take_ (i := 8) (N := some 30) (v := ?_) (a' := ?_) #[true, false, true, true, true, true, false, true, true, true, false, false, true, false, false, false, false, false] rfl rfl (by kernel_rfl) (fun _ _ _ h => h) (Or.inl ⟨by rfl, ?_⟩) hHeld ?_ ?_
    rotate_left
    · rintro w' ⟨s0, s1, s2, s3, s4, s5, s6⟩
      go_simp
      with_reducible rfl
    rotate_left
    · simp only [Act.put, List.setIfInBounds_toArray, List.set_cons_zero, List.set_cons_succ, i64_w, i32_w]
      rfl
    refine take_ (i := 10) (N := some 32) (v := ?_) (a' := ?_) #[true, false, true, true, true, true, false, true, true, true, true, false, true, false, false, false, false, false] rfl rfl (by kernel_rfl) (fun _ _ _ h => h) (Or.inl ⟨by rfl, ?_⟩) hHeld ?_ ?_
    rotate_left
    · rintro w' ⟨s0, s1, s2, s3, s4, s5, s6⟩
      go_simp
      with_reducible rfl
    rotate_left
    · simp only [Act.put, List.setIfInBounds_toArray, List.set_cons_zero, List.set_cons_succ, i64_w, i32_w]
      rfl
    refine take_ (i := 13) (N := some 35) (v := ?_) (a' := ?_) #[true, false, true, true, true, true, false, true, true, true, true, false, true, true, false, false, false, false] rfl rfl (by kernel_rfl) (fun _ _ _ h => h) (Or.inl ⟨by rfl, ?_⟩) hHeld ?_ ?_
    rotate_left
    · rintro w' ⟨s0, s1, s2, s3, s4, s5, s6⟩
      go_simp
      with_reducible rfl
    rotate_left
    · simp only [Act.put, List.setIfInBounds_toArray, List.set_cons_zero, List.set_cons_succ, i64_w, i32_w]
      rfl
    refine take_ (i := 14) (N := some 36) (v := ?_) (a' := ?_) #[true, false, true, true, true, true, false, true, true, true, true, false, true, true, true, false, false, false] rfl rfl (by kernel_rfl) (fun _ _ _ h => h) (Or.inl ⟨by rfl, ?_⟩) hHeld ?_ ?_
    rotate_left
    · rintro w' ⟨s0, s1, s2, s3, s4, s5, s6⟩
      refine row_loads 24 (.tmp 3) ?_ (w.heap.size + 1) ?_ s1 Try.underlying24 ?_ ?_
      · rfl
      · rfl
      · rfl
      · kernel_rfl
    rotate_left
    · simp only [Act.put, List.setIfInBounds_toArray, List.set_cons_zero, List.set_cons_succ, i64_w, i32_w]
      rfl
    refine one_ (i := 1) (N := some 23) #[true, true, true, true, true, true, false, true, true, true, true, false, true, true, true, false, false, false] rfl rfl (by kernel_rfl) (by decide) (fun K hK => ?_)
    refine goes_ Try.func25 (by kernel_rfl) rfl #[.agg #[.slice X0 x.f0.length x0, .slice X1 x.f1.length x1, .string x.f2]] (by rfl) rfl rfl (by simp only [List.map_toArray, List.map_cons, List.map_nil]; rfl) ?_
    with_reducible refine (rimageSum_calls X0 x0 x.f0 X1 x1 x.f1 x.f2 _ (Kd.C_below hX0 W0.out) hx0 (Kd.C_below hX1 W0.out) hx1 hmx hLx).mono ?_
    rintro e w3 ⟨rfl, hb⟩
    refine ⟨_, rfl, ?_⟩
    have BA1 := Aside0.mk (BA0.out.below hb BA0.out.lt)
    have BB1 := Aside0.mk (BB0.out.below hb BB0.out.lt)
    have BD1 := Aside0.mk (BD0.out.below hb BD0.out.lt)
    have W1 := Aside0.mk (below_then W0.out W0.out.size hb)
    clear hb
    refine hK.out _ _ ⟨BA1.out, BB1.out, (BA1.out.cell 0), (BA1.out.cell 1), (BB1.out.cell 0), (BB1.out.cell 1), (BB1.out.cell 2)⟩ (fun hHeld => ?_)
    clear hK K
    refine norm_ (a' := ?_) ?_ ?_
    rotate_left
    · show Act.put _ (some 23) _ = _
      simp only [Act.put, List.setIfInBounds_toArray, List.set_cons_zero, List.set_cons_succ, i64_w, i32_w]
      rfl
    refine one_ (i := 6) (N := some 28) #[true, true, true, true, true, true, true, true, true, true, true, false, true, true, true, false, false, false] rfl rfl (by kernel_rfl) (by decide) (fun K hK => ?_)
    refine goes_ Try.func26 (by kernel_rfl) rfl #[.slice X0 x.f0.length x0, .slice P0 b.f0.length p0] (by rfl) rfl rfl (by simp only [List.map_toArray, List.map_cons, List.map_nil]; rfl) ?_
    with_reducible refine (hibernacleref35_others.calls k X0 x0 x.f0 P0 p0 b.f0 r1 _ (Kd.C_below hX0 W1.out) hx0 (Kd.C_below hP0 W1.out) hp0 hr1).mono ?_
    rintro e w4 ⟨v1, rfl, hR, hb⟩
    refine ⟨_, rfl, ?_⟩
    obtain ⟨U1, u1, rfl⟩ := Kd.R_slice hR
    have BA2 := Aside0.mk (BA1.out.below hb BA1.out.lt)
    have BB2 := Aside0.mk (BB1.out.below hb BB1.out.lt)
    have BD2 := Aside0.mk (BD1.out.below hb BD1.out.lt)
    have W2 := Aside0.mk (below_then W1.out W1.out.size hb)
    have C12 := Aside0.mk hR
    clear hb hR
    refine hK.out _ _ ⟨BA2.out, BB2.out, (BA2.out.cell 0), (BA2.out.cell 1), (BB2.out.cell 0), (BB2.out.cell 1), (BB2.out.cell 2)⟩ (fun hHeld => ?_)
    clear hK K
    refine norm_ (a' := ?_) ?_ ?_
    rotate_left
    · show Act.put _ (some 28) _ = _
      simp only [Act.put, List.setIfInBounds_toArray, List.set_cons_zero, List.set_cons_succ, i64_w, i32_w]
      rfl
    refine one_ (i := 11) (N := some 33) #[true, true, true, true, true, true, true, true, true, true, true, true, true, true, true, false, false, false] rfl rfl (by kernel_rfl) (by decide) (fun K hK => ?_)
    refine goes_ Try.func26 (by kernel_rfl) rfl #[.slice X1 x.f1.length x1, .slice P1 b.f1.length p1] (by rfl) rfl rfl (by simp only [List.map_toArray, List.map_cons, List.map_nil]; rfl) ?_
    with_reducible refine (hibernacleref35_others.calls k X1 x1 x.f1 P1 p1 b.f1 r2 _ (Kd.C_below hX1 W2.out) hx1 (Kd.C_below hP1 W2.out) hp1 hr2).mono ?_
    rintro e w5 ⟨v2, rfl, hR, hb⟩
    refine ⟨_, rfl, ?_⟩
    obtain ⟨U2, u2, rfl⟩ := Kd.R_slice hR
    have BA3 := Aside0.mk (BA2.out.below hb BA2.out.lt)
    have BB3 := Aside0.mk (BB2.out.below hb BB2.out.lt)
    have BD3 := Aside0.mk (BD2.out.below hb BD2.out.lt)
    have W3 := Aside0.mk (below_then W2.out W2.out.size hb)
    have C13 := Aside0.mk (Kd.R_below C12.out hb)
    have C23 := Aside0.mk hR
    clear hb hR
    refine hK.out _ _ ⟨BA3.out, BB3.out, (BA3.out.cell 0), (BA3.out.cell 1), (BB3.out.cell 0), (BB3.out.cell 1), (BB3.out.cell 2)⟩ (fun hHeld => ?_)
    clear hK K
    refine norm_ (a' := ?_) ?_ ?_
    rotate_left
    · show Act.put _ (some 33) _ = _
      simp only [Act.put, List.setIfInBounds_toArray, List.set_cons_zero, List.set_cons_succ, i64_w, i32_w]
      rfl
    refine one_ (i := 15) (N := some 37) #[true, true, true, true, true, true, true, true, true, true, true, true, true, true, true, true, false, false] rfl rfl (by kernel_rfl) (by decide) (fun K hK => ?_)
    refine goes_ Try.func25 (by kernel_rfl) rfl #[.agg #[.slice P0 b.f0.length p0, .slice P1 b.f1.length p1, .string b.f2]] (by rfl) rfl rfl (by simp only [List.map_toArray, List.map_cons, List.map_nil]; rfl) ?_
    with_reducible refine (rimageSum_calls P0 p0 b.f0 P1 p1 b.f1 b.f2 _ (Kd.C_below hP0 W3.out) hp0 (Kd.C_below hP1 W3.out) hp1 hmb hLb).mono ?_
    rintro e w6 ⟨rfl, hb⟩
    refine ⟨_, rfl, ?_⟩
    have BA4 := Aside0.mk (BA3.out.below hb BA3.out.lt)
    have BB4 := Aside0.mk (BB3.out.below hb BB3.out.lt)
    have BD4 := Aside0.mk (BD3.out.below hb BD3.out.lt)
    have W4 := Aside0.mk (below_then W3.out W3.out.size hb)
    have C14 := Aside0.mk (Kd.R_below C13.out hb)
    have C24 := Aside0.mk (Kd.R_below C23.out hb)
    clear hb
    refine hK.out _ _ ⟨BA4.out, BB4.out, (BA4.out.cell 0), (BA4.out.cell 1), (BB4.out.cell 0), (BB4.out.cell 1), (BB4.out.cell 2)⟩ (fun hHeld => ?_)
    clear hK K
    refine norm_ (a' := ?_) ?_ ?_
    rotate_left
    · show Act.put _ (some 37) _ = _
      simp only [Act.put, List.setIfInBounds_toArray, List.set_cons_zero, List.set_cons_succ, i64_w, i32_w]
      rfl
    refine pure_ (i := 16) (N := some 38) (v := ?_) (a' := ?_) #[true, true, true, true, true, true, true, true, true, true, true, true, true, true, true, true, true, false] rfl rfl (by kernel_rfl) (fun _ _ _ h => h) (Or.inl ⟨by rfl, ?_⟩) ?_ ?_
    rotate_left
    · intro w'
      refine op_builds 32 #[(0, .tmp 23), (1, .tmp 28), (2, .tmp 33), (3, .tmp 35), (4, .tmp 37)] ?_ (dArr (imgSum x.f0 x.f1 x.f2) (.slice U1 r1.length u1) (.slice U2 r2.length u2) b.f2 (imgSum b.f0 b.f1 b.f2)) ((congrArg (Try.prog.built 32) ?_).trans (built_delta (imgSum_len x.f0 x.f1 x.f2) (imgSum_len b.f0 b.f1 b.f2) U1 r1.length u1 U2 r2.length u2 b.f2))
      · rfl
      · simp only [List.map_toArray, List.map_cons, List.map_nil]
        rfl
    rotate_left
    · simp only [Act.put, List.setIfInBounds_toArray, List.set_cons_zero, List.set_cons_succ, i64_w, i32_w]
      rfl
    refine last_ (i := 17) (N := none) #[true, true, true, true, true, true, true, true, true, true, true, true, true, true, true, true, true, true] rfl rfl (by kernel_rfl) (by decide) (fun K hK => ?_)
    refine skip_ (w1 := w6.setRow (w.heap.size + 1 + 1) (dArr (imgSum x.f0 x.f1 x.f2) (.slice U1 r1.length u1) (.slice U2 r2.length u2) b.f2 (imgSum b.f0 b.f1 b.f2))) (by rfl) rfl ?_ ?_
    · exact row_stores 32 (.tmp 4) (.tmp 38) rfl (w.heap.size + 1 + 1) _ rfl rfl BD4.out (by rw [dArr_size (imgSum_len _ _ _) (imgSum_len _ _ _)]; kernel_rfl) (by rw [dArr_size (imgSum_len _ _ _) (imgSum_len _ _ _), dArr_size (outL_len _ _) (outL_len _ _)]) (dArr_one _ _ _ _ _ _ _ _ _)
    refine hK.out _ _ ?_
    clear hK K
    refine done_ (by kernel_rfl) ?_

    clear hHeld
    go_wp2_with fail
    exact bodyPost_ret (results_cell_row (p := 4) (ty := 32) rfl _ _ (w.heap.size + 1 + 1) 32 _ (0, 0) _ rfl (BD4.out.setRow_ _) Try.underlying32 rfl (by rw [dArr_size (imgSum_len _ _ _) (imgSum_len _ _ _)]; kernel_rfl)) rfl ⟨U1, u1, U2, u2, rfl, Kd.R_lower (R_setRow C14.out (by have := BD1.out.lt; omega) _) W1.out.size, Kd.R_lower (R_setRow C24.out (by have := BD2.out.lt; omega) _) W2.out.size, below_setRow' W4.out (by omega) _⟩
  · have tb := eq_false (show ¬ (b.f0.length : Int) < (a.f0.length : Int) by omega)
    by_cases t2 : b.f1.length < a.f1.length
    · have tc := eq_true (show (b.f1.length : Int) < (a.f1.length : Int) by omega)
      have ex : x = ⟨[], [], ⟨#[]⟩⟩ := by rw [hx, aOf, if_pos (Or.inr t2)]
      go_enter Try.func12, Try.ntmps12
      go_wp2_with (first | (rw [show (((w.alloc (.cells #[.slice A0 a.f0.length c0, .slice A1 a.f1.length c1, .string a.f2] 24)).alloc (.cells #[.slice P0 b.f0.length p0, .slice P1 b.f1.length p1, .string b.f2] 24)).alloc (.cells Try.zeroCells32 32)) = w0 from (by rw [z32]; exact HW0.out)]) | (refine wpList_store_row rfl 24 (.tmp 2) (.tmp 21) rfl w.heap.size #[.slice none 0 0, .slice none 0 0, .string ⟨#[]⟩] rfl rfl 24 _ BA.out (by kernel_rfl) (by kernel_rfl) (by kernel_rfl) ?_))
      obtain ⟨X0, x0, X1, x1, hX0, hx0, hX1, hx1, BA0⟩ : ∃ X0 x0 X1 x1, Kd.C Kd.string w X0 x.f0.length x.f0 ∧ x.f0.length ≤ x0 ∧ Kd.C Kd.string w X1 x.f1.length x.f1 ∧ x.f1.length ≤ x1 ∧ Blk (w0.setRow w.heap.size #[.slice none 0 0, .slice none 0 0, .string ⟨#[]⟩]) w.heap.size 24 #[.slice X0 x.f0.length x0, .slice X1 x.f1.length x1, .string x.f2] := by
        rw [ex]
        exact ⟨none, 0, none, 0, Kd.C_nil _ _, Nat.le_refl _, Kd.C_nil _ _, Nat.le_refl _, BA.out.setRow_ _⟩
      have hLx : (imageL x.f0 x.f1 x.f2).length ≤ 140737488355328 := by rw [ex]; decide +kernel
      have hmx : x.f0.length ≤ 5864062014805 ∧ x.f1.length ≤ 5864062014805 := by rw [ex]; simp
      have BB0 := BB.out.setRow_far (k := w.heap.size) (by omega) #[.slice none 0 0, .slice none 0 0, .string ⟨#[]⟩]
      have BD0 := BD.out.setRow_far (k := w.heap.size) (by omega) #[.slice none 0 0, .slice none 0 0, .string ⟨#[]⟩]
      have W0 := below_setRow' W0.out (Nat.le_refl _) #[.slice none 0 0, .slice none 0 0, .string ⟨#[]⟩]
      generalize w0.setRow w.heap.size #[.slice none 0 0, .slice none 0 0, .string ⟨#[]⟩] = w2 at BA0 BB0 BD0 W0 ⊢
      clear ex hx qa0 qa1 qb0 qb1 HW0 BA BB BD
      have BA0 := Aside0.mk BA0.drew
      have BB0 := Aside0.mk BB0.drew
      have BD0 := Aside0.mk BD0.drew
      have W0 := Aside0.mk (below_drew W0)
      refine start_ (n := 18) (S := fun w' => Blk w' w.heap.size 24 #[.slice X0 x.f0.length x0, .slice X1 x.f1.length x1, .string x.f2] ∧ Blk w' (w.heap.size + 1) 24 #[.slice P0 b.f0.length p0, .slice P1 b.f1.length p1, .string b.f2] ∧ w'.cell? ⟨w.heap.size, 0, none⟩ = some (.slice X0 x.f0.length x0) ∧ w'.cell? ⟨w.heap.size, 1, none⟩ = some (.slice X1 x.f1.length x1) ∧ w'.cell? ⟨w.heap.size + 1, 0, none⟩ = some (.slice P0 b.f0.length p0) ∧ w'.cell? ⟨w.heap.size + 1, 1, none⟩ = some (.slice P1 b.f1.length p1) ∧ w'.cell? ⟨w.heap.size + 1, 2, none⟩ = some (.string b.f2)) (ds := [17]) #[false, false, false, false, false, false, false, false, false, false, false, false, false, false, false, false, false, false] (by kernel_rfl) rfl rfl ⟨BA0.out, BB0.out, (BA0.out.cell 0), (BA0.out.cell 1), (BB0.out.cell 0), (BB0.out.cell 1), (BB0.out.cell 2)⟩ (fun hHeld => ?_)
      refine pure_ (i := 2) (N := some 24) (v := ?_) (a' := ?_) #[false, false, true, false, false, false, false, false, false, false, false, false, false, false, false, false, false, false] rfl rfl (by kernel_rfl) (fun _ _ _ h => h) (Or.inl ⟨by rfl, ?_⟩) ?_ ?_
      rotate_left
      · intro w'
        go_simp
        with_reducible rfl
      rotate_left
      · simp only [Act.put, List.setIfInBounds_toArray, List.set_cons_zero, List.set_cons_succ, i64_w, i32_w]
        rfl
      refine pure_ (i := 4) (N := some 26) (v := ?_) (a' := ?_) #[false, false, true, false, true, false, false, false, false, false, false, false, false, false, false, false, false, false] rfl rfl (by kernel_rfl) (fun _ _ _ h => h) (Or.inl ⟨by rfl, ?_⟩) ?_ ?_
      rotate_left
      · intro w'
        go_simp
        with_reducible rfl
      rotate_left
      · simp only [Act.put, List.setIfInBounds_toArray, List.set_cons_zero, List.set_cons_succ, i64_w, i32_w]
        rfl
      refine pure_ (i := 7) (N := some 29) (v := ?_) (a' := ?_) #[false, false, true, false, true, false, false, true, false, false, false, false, false, false, false, false, false, false] rfl rfl (by kernel_rfl) (fun _ _ _ h => h) (Or.inl ⟨by rfl, ?_⟩) ?_ ?_
      rotate_left
      · intro w'
        go_simp
        with_reducible rfl
      rotate_left
      · simp only [Act.put, List.setIfInBounds_toArray, List.set_cons_zero, List.set_cons_succ, i64_w, i32_w]
        rfl
      refine pure_ (i := 9) (N := some 31) (v := ?_) (a' := ?_) #[false, false, true, false, true, false, false, true, false, true, false, false, false, false, false, false, false, false] rfl rfl (by kernel_rfl) (fun _ _ _ h => h) (Or.inl ⟨by rfl, ?_⟩) ?_ ?_
      rotate_left
      · intro w'
        go_simp
        with_reducible rfl
      rotate_left
      · simp only [Act.put, List.setIfInBounds_toArray, List.set_cons_zero, List.set_cons_succ, i64_w, i32_w]
        rfl
      refine pure_ (i := 12) (N := some 34) (v := ?_) (a' := ?_) #[false, false, true, false, true, false, false, true, false, true, false, false, true, false, false, false, false, false] rfl rfl (by kernel_rfl) (fun _ _ _ h => h) (Or.inl ⟨by rfl, ?_⟩) ?_ ?_
      rotate_left
      · intro w'
        go_simp
        with_reducible rfl
      rotate_left
      · simp only [Act.put, List.setIfInBounds_toArray, List.set_cons_zero, List.set_cons_succ, i64_w, i32_w]
        rfl
      refine take_ (i := 0) (N := some 22) (v := ?_) (a' := ?_) #[true, false, true, false, true, false, false, true, false, true, false, false, true, false, false, false, false, false] rfl rfl (by kernel_rfl) (fun _ _ _ h => h) (Or.inl ⟨by rfl, ?_⟩) hHeld ?_ ?_
      rotate_left
      · rintro w' ⟨s0, s1, s2, s3, s4, s5, s6⟩
        refine row_loads 24 (.tmp 2) ?_ w.heap.size ?_ s0 Try.underlying24 ?_ ?_
        · rfl
        · rfl
        · rfl
        · kernel_rfl
      rotate_left
      · simp only [Act.put, List.setIfInBounds_toArray, List.set_cons_zero, List.set_cons_succ, i64_w, i32_w]
        rfl
      refine take_ (i := 3) (N := some 25) (v := ?_) (a' := ?_) #[true, false, true, true, true, false, false, true, false, true, false, false, true, false, false, false, false, false] rfl rfl (by kernel_rfl) (fun _ _ _ h => h) (Or.inl ⟨by rfl, ?_⟩) hHeld ?_ ?_
      rotate_left
      · rintro w' ⟨s0, s1, s2, s3, s4, s5, s6⟩
        go_simp
        with_reducible rfl
      rotate_left
      · simp only [Act.put, List.setIfInBounds_toArray, List.set_cons_zero, List.set_cons_succ, i64_w, i32_w]
        rfl
      refine take_ (i := 5) (N := some 27) (v := ?_) (a' := ?_) #[true, false, true, true, true, true, false, true, false, true, false, false, true, false, false, false, false, false] rfl rfl (by kernel_rfl) (fun _ _ _ h => h) (Or.inl ⟨by rfl, ?_⟩) hHeld ?_ ?_
      rotate_left
      · rintro w' ⟨s0, s1, s2, s3, s4, s5, s6⟩
        go_simp
        with_reducible rfl
      rotate_left
      · simp only [Act.put, List.setIfInBounds_toArray, List.set_cons_zero, List.set_cons_succ, i64_w, i32_w]
        rfl
      refine take_ (i := 8) (N := some 30) (v := ?_) (a' := ?_) #[true, false, true, true, true, true, false, true, true, true, false, false, true, false, false, false, false, false] rfl rfl (by kernel_rfl) (fun _ _ _ h => h) (Or.inl ⟨by rfl, ?_⟩) hHeld ?_ ?_
      rotate_left
      · rintro w' ⟨s0, s1, s2, s3, s4, s5, s6⟩
        go_simp
        with_reducible rfl
      rotate_left
      · simp only [Act.put, List.setIfInBounds_toArray, List.set_cons_zero, List.set_cons_succ, i64_w, i32_w]
        rfl
      refine take_ (i := 10) (N := some 32) (v := ?_) (a' := ?_) #[true, false, true, true, true, true, false, true, true, true, true, false, true, false, false, false, false, false] rfl rfl (by kernel_rfl) (fun _ _ _ h => h) (Or.inl ⟨by rfl, ?_⟩) hHeld ?_ ?_
      rotate_left
      · rintro w' ⟨s0, s1, s2, s3, s4, s5, s6⟩
        go_simp
        with_reducible rfl
      rotate_left
      · simp only [Act.put, List.setIfInBounds_toArray, List.set_cons_zero, List.set_cons_succ, i64_w, i32_w]
        rfl
      refine take_ (i := 13) (N := some 35) (v := ?_) (a' := ?_) #[true, false, true, true, true, true, false, true, true, true, true, false, true, true, false, false, false, false] rfl rfl (by kernel_rfl) (fun _ _ _ h => h) (Or.inl ⟨by rfl, ?_⟩) hHeld ?_ ?_
      rotate_left
      · rintro w' ⟨s0, s1, s2, s3, s4, s5, s6⟩
        go_simp
        with_reducible rfl
      rotate_left
      · simp only [Act.put, List.setIfInBounds_toArray, List.set_cons_zero, List.set_cons_succ, i64_w, i32_w]
        rfl
      refine take_ (i := 14) (N := some 36) (v := ?_) (a' := ?_) #[true, false, true, true, true, true, false, true, true, true, true, false, true, true, true, false, false, false] rfl rfl (by kernel_rfl) (fun _ _ _ h => h) (Or.inl ⟨by rfl, ?_⟩) hHeld ?_ ?_
      rotate_left
      · rintro w' ⟨s0, s1, s2, s3, s4, s5, s6⟩
        refine row_loads 24 (.tmp 3) ?_ (w.heap.size + 1) ?_ s1 Try.underlying24 ?_ ?_
        · rfl
        · rfl
        · rfl
        · kernel_rfl
      rotate_left
      · simp only [Act.put, List.setIfInBounds_toArray, List.set_cons_zero, List.set_cons_succ, i64_w, i32_w]
        rfl
      refine one_ (i := 1) (N := some 23) #[true, true, true, true, true, true, false, true, true, true, true, false, true, true, true, false, false, false] rfl rfl (by kernel_rfl) (by decide) (fun K hK => ?_)
      refine goes_ Try.func25 (by kernel_rfl) rfl #[.agg #[.slice X0 x.f0.length x0, .slice X1 x.f1.length x1, .string x.f2]] (by rfl) rfl rfl (by simp only [List.map_toArray, List.map_cons, List.map_nil]; rfl) ?_
      with_reducible refine (rimageSum_calls X0 x0 x.f0 X1 x1 x.f1 x.f2 _ (Kd.C_below hX0 W0.out) hx0 (Kd.C_below hX1 W0.out) hx1 hmx hLx).mono ?_
      rintro e w3 ⟨rfl, hb⟩
      refine ⟨_, rfl, ?_⟩
      have BA1 := Aside0.mk (BA0.out.below hb BA0.out.lt)
      have BB1 := Aside0.mk (BB0.out.below hb BB0.out.lt)
      have BD1 := Aside0.mk (BD0.out.below hb BD0.out.lt)
      have W1 := Aside0.mk (below_then W0.out W0.out.size hb)
      clear hb
      refine hK.out _ _ ⟨BA1.out, BB1.out, (BA1.out.cell 0), (BA1.out.cell 1), (BB1.out.cell 0), (BB1.out.cell 1), (BB1.out.cell 2)⟩ (fun hHeld => ?_)
      clear hK K
      refine norm_ (a' := ?_) ?_ ?_
      rotate_left
      · show Act.put _ (some 23) _ = _
        simp only [Act.put, List.setIfInBounds_toArray, List.set_cons_zero, List.set_cons_succ, i64_w, i32_w]
        rfl
      refine one_ (i := 6) (N := some 28) #[true, true, true, true, true, true, true, true, true, true, true, false, true, true, true, false, false, false] rfl rfl (by kernel_rfl) (by decide) (fun K hK => ?_)
      refine goes_ Try.func26 (by kernel_rfl) rfl #[.slice X0 x.f0.length x0, .slice P0 b.f0.length p0] (by rfl) rfl rfl (by simp only [List.map_toArray, List.map_cons, List.map_nil]; rfl) ?_
      with_reducible refine (hibernacleref35_others.calls k X0 x0 x.f0 P0 p0 b.f0 r1 _ (Kd.C_below hX0 W1.out) hx0 (Kd.C_below hP0 W1.out) hp0 hr1).mono ?_
      rintro e w4 ⟨v1, rfl, hR, hb⟩
      refine ⟨_, rfl, ?_⟩
      obtain ⟨U1, u1, rfl⟩ := Kd.R_slice hR
      have BA2 := Aside0.mk (BA1.out.below hb BA1.out.lt)
      have BB2 := Aside0.mk (BB1.out.below hb BB1.out.lt)
      have BD2 := Aside0.mk (BD1.out.below hb BD1.out.lt)
      have W2 := Aside0.mk (below_then W1.out W1.out.size hb)
      have C12 := Aside0.mk hR
      clear hb hR
      refine hK.out _ _ ⟨BA2.out, BB2.out, (BA2.out.cell 0), (BA2.out.cell 1), (BB2.out.cell 0), (BB2.out.cell 1), (BB2.out.cell 2)⟩ (fun hHeld => ?_)
      clear hK K
      refine norm_ (a' := ?_) ?_ ?_
      rotate_left
      · show Act.put _ (some 28) _ = _
        simp only [Act.put, List.setIfInBounds_toArray, List.set_cons_zero, List.set_cons_succ, i64_w, i32_w]
        rfl
      refine one_ (i := 11) (N := some 33) #[true, true, true, true, true, true, true, true, true, true, true, true, true, true, true, false, false, false] rfl rfl (by kernel_rfl) (by decide) (fun K hK => ?_)
      refine goes_ Try.func26 (by kernel_rfl) rfl #[.slice X1 x.f1.length x1, .slice P1 b.f1.length p1] (by rfl) rfl rfl (by simp only [List.map_toArray, List.map_cons, List.map_nil]; rfl) ?_
      with_reducible refine (hibernacleref35_others.calls k X1 x1 x.f1 P1 p1 b.f1 r2 _ (Kd.C_below hX1 W2.out) hx1 (Kd.C_below hP1 W2.out) hp1 hr2).mono ?_
      rintro e w5 ⟨v2, rfl, hR, hb⟩
      refine ⟨_, rfl, ?_⟩
      obtain ⟨U2, u2, rfl⟩ := Kd.R_slice hR
      have BA3 := Aside0.mk (BA2.out.below hb BA2.out.lt)
      have BB3 := Aside0.mk (BB2.out.below hb BB2.out.lt)
      have BD3 := Aside0.mk (BD2.out.below hb BD2.out.lt)
      have W3 := Aside0.mk (below_then W2.out W2.out.size hb)
      have C13 := Aside0.mk (Kd.R_below C12.out hb)
      have C23 := Aside0.mk hR
      clear hb hR
      refine hK.out _ _ ⟨BA3.out, BB3.out, (BA3.out.cell 0), (BA3.out.cell 1), (BB3.out.cell 0), (BB3.out.cell 1), (BB3.out.cell 2)⟩ (fun hHeld => ?_)
      clear hK K
      refine norm_ (a' := ?_) ?_ ?_
      rotate_left
      · show Act.put _ (some 33) _ = _
        simp only [Act.put, List.setIfInBounds_toArray, List.set_cons_zero, List.set_cons_succ, i64_w, i32_w]
        rfl
      refine one_ (i := 15) (N := some 37) #[true, true, true, true, true, true, true, true, true, true, true, true, true, true, true, true, false, false] rfl rfl (by kernel_rfl) (by decide) (fun K hK => ?_)
      refine goes_ Try.func25 (by kernel_rfl) rfl #[.agg #[.slice P0 b.f0.length p0, .slice P1 b.f1.length p1, .string b.f2]] (by rfl) rfl rfl (by simp only [List.map_toArray, List.map_cons, List.map_nil]; rfl) ?_
      with_reducible refine (rimageSum_calls P0 p0 b.f0 P1 p1 b.f1 b.f2 _ (Kd.C_below hP0 W3.out) hp0 (Kd.C_below hP1 W3.out) hp1 hmb hLb).mono ?_
      rintro e w6 ⟨rfl, hb⟩
      refine ⟨_, rfl, ?_⟩
      have BA4 := Aside0.mk (BA3.out.below hb BA3.out.lt)
      have BB4 := Aside0.mk (BB3.out.below hb BB3.out.lt)
      have BD4 := Aside0.mk (BD3.out.below hb BD3.out.lt)
      have W4 := Aside0.mk (below_then W3.out W3.out.size hb)
      have C14 := Aside0.mk (Kd.R_below C13.out hb)
      have C24 := Aside0.mk (Kd.R_below C23.out hb)
      clear hb
      refine hK.out _ _ ⟨BA4.out, BB4.out, (BA4.out.cell 0), (BA4.out.cell 1), (BB4.out.cell 0), (BB4.out.cell 1), (BB4.out.cell 2)⟩ (fun hHeld => ?_)
      clear hK K
      refine norm_ (a' := ?_) ?_ ?_
      rotate_left
      · show Act.put _ (some 37) _ = _
        simp only [Act.put, List.setIfInBounds_toArray, List.set_cons_zero, List.set_cons_succ, i64_w, i32_w]
        rfl
      refine pure_ (i := 16) (N := some 38) (v := ?_) (a' := ?_) #[true, true, true, true, true, true, true, true, true, true, true, true, true, true, true, true, true, false] rfl rfl (by kernel_rfl) (fun _ _ _ h => h) (Or.inl ⟨by rfl, ?_⟩) ?_ ?_
      rotate_left
      · intro w'
        refine op_builds 32 #[(0, .tmp 23), (1, .tmp 28), (2, .tmp 33), (3, .tmp 35), (4, .tmp 37)] ?_ (dArr (imgSum x.f0 x.f1 x.f2) (.slice U1 r1.length u1) (.slice U2 r2.length u2) b.f2 (imgSum b.f0 b.f1 b.f2)) ((congrArg (Try.prog.built 32) ?_).trans (built_delta (imgSum_len x.f0 x.f1 x.f2) (imgSum_len b.f0 b.f1 b.f2) U1 r1.length u1 U2 r2.length u2 b.f2))
        · rfl
        · simp only [List.map_toArray, List.map_cons, List.map_nil]
          rfl
      rotate_left
      · simp only [Act.put, List.setIfInBounds_toArray, List.set_cons_zero, List.set_cons_succ, i64_w, i32_w]
        rfl
      refine last_ (i := 17) (N := none) #[true, true, true, true, true, true, true, true, true, true, true, true, true, true, true, true, true, true] rfl rfl (by kernel_rfl) (by decide) (fun K hK => ?_)
      refine skip_ (w1 := w6.setRow (w.heap.size + 1 + 1) (dArr (imgSum x.f0 x.f1 x.f2) (.slice U1 r1.length u1) (.slice U2 r2.length u2) b.f2 (imgSum b.f0 b.f1 b.f2))) (by rfl) rfl ?_ ?_
      · exact row_stores 32 (.tmp 4) (.tmp 38) rfl (w.heap.size + 1 + 1) _ rfl rfl BD4.out (by rw [dArr_size (imgSum_len _ _ _) (imgSum_len _ _ _)]; kernel_rfl) (by rw [dArr_size (imgSum_len _ _ _) (imgSum_len _ _ _), dArr_size (outL_len _ _) (outL_len _ _)]) (dArr_one _ _ _ _ _ _ _ _ _)
      refine hK.out _ _ ?_
      clear hK K
      refine done_ (by kernel_rfl) ?_

      clear hHeld
      go_wp2_with fail
      exact bodyPost_ret (results_cell_row (p := 4) (ty := 32) rfl _ _ (w.heap.size + 1 + 1) 32 _ (0, 0) _ rfl (BD4.out.setRow_ _) Try.underlying32 rfl (by rw [dArr_size (imgSum_len _ _ _) (imgSum_len _ _ _)]; kernel_rfl)) rfl ⟨U1, u1, U2, u2, rfl, Kd.R_lower (R_setRow C14.out (by have := BD1.out.lt; omega) _) W1.out.size, Kd.R_lower (R_setRow C24.out (by have := BD2.out.lt; omega) _) W2.out.size, below_setRow' W4.out (by omega) _⟩
    · have tc := eq_false (show ¬ (b.f1.length : Int) < (a.f1.length : Int) by omega)
      have ex : x = a := by rw [hx, aOf, if_neg (by omega)]
      go_enter Try.func12, Try.ntmps12
      go_wp2_with (rw [show (((w.alloc (.cells #[.slice A0 a.f0.length c0, .slice A1 a.f1.length c1, .string a.f2] 24)).alloc (.cells #[.slice P0 b.f0.length p0, .slice P1 b.f1.length p1, .string b.f2] 24)).alloc (.cells Try.zeroCells32 32)) = w0 from (by rw [z32]; exact HW0.out)])
      obtain ⟨X0, x0, X1, x1, hX0, hx0, hX1, hx1, BA0⟩ : ∃ X0 x0 X1 x1, Kd.C Kd.string w X0 x.f0.length x.f0 ∧ x.f0.length ≤ x0 ∧ Kd.C Kd.string w X1 x.f1.length x.f1 ∧ x.f1.length ≤ x1 ∧ Blk w0 w.heap.size 24 #[.slice X0 x.f0.length x0, .slice X1 x.f1.length x1, .string x.f2] := by
        rw [ex]
        exact ⟨A0, c0, A1, c1, hA0, ha0, hA1, ha1, BA.out⟩
      have hLx : (imageL x.f0 x.f1 x.f2).length ≤ 140737488355328 := by rw [ex]; exact hLa
      have hmx : x.f0.length ≤ 5864062014805 ∧ x.f1.length ≤ 5864062014805 := by rw [ex]; exact hma
      clear ex hx qa0 qa1 qb0 qb1 HW0 BA
      have BA0 := Aside0.mk BA0.drew
      have BB0 := Aside0.mk BB.out.drew
      have BD0 := Aside0.mk BD.out.drew
      have W0 := Aside0.mk (below_drew W0.out)
      clear BB BD
      refine start_ (n := 18) (S := fun w' => Blk w' w.heap.size 24 #[.slice X0 x.f0.length x0, .slice X1 x.f1.length x1, .string x.f2] ∧ Blk w' (w.heap.size + 1) 24 #[.slice P0 b.f0.length p0, .slice P1 b.f1.length p1, .string b.f2] ∧ w'.cell? ⟨w.heap.size, 0, none⟩ = some (.slice X0 x.f0.length x0) ∧ w'.cell? ⟨w.heap.size, 1, none⟩ = some (.slice X1 x.f1.length x1) ∧ w'.cell? ⟨w.heap.size + 1, 0, none⟩ = some (.slice P0 b.f0.length p0) ∧ w'.cell? ⟨w.heap.size + 1, 1, none⟩ = some (.slice P1 b.f1.length p1) ∧ w'.cell? ⟨w.heap.size + 1, 2, none⟩ = some (.string b.f2)) (ds := [17]) #[false, false, false, false, false, false, false, false, false, false, false, false, false, false, false, false, false, false] (by kernel_rfl) rfl rfl ⟨BA0.out, BB0.out, (BA0.out.cell 0), (BA0.out.cell 1), (BB0.out.cell 0), (BB0.out.cell 1), (BB0.out.cell 2)⟩ (fun hHeld => ?_)
      refine pure_ (i := 2) (N := some 24) (v := ?_) (a' := ?_) #[false, false, true, false, false, false, false, false, false, false, false, false, false, false, false, false, false, false] rfl rfl (by kernel_rfl) (fun _ _ _ h => h) (Or.inl ⟨by rfl, ?_⟩) ?_ ?_
      rotate_left
      · intro w'
        go_simp
        with_reducible rfl
      rotate_left
      · simp only [Act.put, List.setIfInBounds_toArray, List.set_cons_zero, List.set_cons_succ, i64_w, i32_w]
        rfl
      refine pure_ (i := 4) (N := some 26) (v := ?_) (a' := ?_) #[false, false, true, false, true, false, false, false, false, false, false, false, false, false, false, false, false, false] rfl rfl (by kernel_rfl) (fun _ _ _ h => h) (Or.inl ⟨by rfl, ?_⟩) ?_ ?_
      rotate_left
      · intro w'
        go_simp
        with_reducible rfl
      rotate_left
      · simp only [Act.put, List.setIfInBounds_toArray, List.set_cons_zero, List.set_cons_succ, i64_w, i32_w]
        rfl
      refine pure_ (i := 7) (N := some 29) (v := ?_) (a' := ?_) #[false, false, true, false, true, false, false, true, false, false, false, false, false, false, false, false, false, false] rfl rfl (by kernel_rfl) (fun _ _ _ h => h) (Or.inl ⟨by rfl, ?_⟩) ?_ ?_
      rotate_left
      · intro w'
        go_simp
        with_reducible rfl
      rotate_left
      · simp only [Act.put, List.setIfInBounds_toArray, List.set_cons_zero, List.set_cons_succ, i64_w, i32_w]
        rfl
      refine pure_ (i := 9) (N := some 31) (v := ?_) (a' := ?_) #[false, false, true, false, true, false, false, true, false, true, false, false, false, false, false, false, false, false] rfl rfl (by kernel_rfl) (fun _ _ _ h => h) (Or.inl ⟨by rfl, ?_⟩) ?_ ?_
      rotate_left
      · intro w'
        go_simp
        with_reducible rfl
      rotate_left
      · simp only [Act.put, List.setIfInBounds_toArray, List.set_cons_zero, List.set_cons_succ, i64_w, i32_w]
        rfl
      refine pure_ (i := 12) (N := some 34) (v := ?_) (a' := ?_) #[false, false, true, false, true, false, false, true, false, true, false, false, true, false, false, false, false, false] rfl rfl (by kernel_rfl) (fun _ _ _ h => h) (Or.inl ⟨by rfl, ?_⟩) ?_ ?_
      rotate_left
      · intro w'
        go_simp
        with_reducible rfl
      rotate_left
      · simp only [Act.put, List.setIfInBounds_toArray, List.set_cons_zero, List.set_cons_succ, i64_w, i32_w]
        rfl
      refine take_ (i := 0) (N := some 22) (v := ?_) (a' := ?_) #[true, false, true, false, true, false, false, true, false, true, false, false, true, false, false, false, false, false] rfl rfl (by kernel_rfl) (fun _ _ _ h => h) (Or.inl ⟨by rfl, ?_⟩) hHeld ?_ ?_
      rotate_left
      · rintro w' ⟨s0, s1, s2, s3, s4, s5, s6⟩
        refine row_loads 24 (.tmp 2) ?_ w.heap.size ?_ s0 Try.underlying24 ?_ ?_
        · rfl
        · rfl
        · rfl
        · kernel_rfl
      rotate_left
      · simp only [Act.put, List.setIfInBounds_toArray, List.set_cons_zero, List.set_cons_succ, i64_w, i32_w]
        rfl
      refine take_ (i := 3) (N := some 25) (v := ?_) (a' := ?_) #[true, false, true, true, true, false, false, true, false, true, false, false, true, false, false, false, false, false] rfl rfl (by kernel_rfl) (fun _ _ _ h => h) (Or.inl ⟨by rfl, ?_⟩) hHeld ?_ ?_
      rotate_left
      · rintro w' ⟨s0, s1, s2, s3, s4, s5, s6⟩
        go_simp
        with_reducible rfl
      rotate_left
      · simp only [Act.put, List.setIfInBounds_toArray, List.set_cons_zero, List.set_cons_succ, i64_w, i32_w]
        rfl
      refine take_ (i := 5) (N := some 27) (v := ?_) (a' := ?_) #[true, false, true, true, true, true, false, true, false, true, false, false, true, false, false, false, false, false] rfl rfl (by kernel_rfl) (fun _ _ _ h => h) (Or.inl ⟨by rfl, ?_⟩) hHeld ?_ ?_
      rotate_left
      · rintro w' ⟨s0, s1, s2, s3, s4, s5, s6⟩
        go_simp
        with_reducible rfl
      rotate_left
      · simp only [Act.put, List.setIfInBounds_toArray, List.set_cons_zero, List.set_cons_succ, i64_w, i32_w]
        rfl
      refine take_ (i := 8) (N := some 30) (v := ?_) (a' := ?_) #[true, false, true, true, true, true, false, true, true, true, false, false, true, false, false, false, false, false] rfl rfl (by kernel_rfl) (fun _ _ _ h => h) (Or.inl ⟨by rfl, ?_⟩) hHeld ?_ ?_
      rotate_left
      · rintro w' ⟨s0, s1, s2, s3, s4, s5, s6⟩
        go_simp
        with_reducible rfl
      rotate_left
      · simp only [Act.put, List.setIfInBounds_toArray, List.set_cons_zero, List.set_cons_succ, i64_w, i32_w]
        rfl
      refine take_ (i := 10) (N := some 32) (v := ?_) (a' := ?_) #[true, false, true, true, true, true, false, true, true, true, true, false, true, false, false, false, false, false] rfl rfl (by kernel_rfl) (fun _ _ _ h => h) (Or.inl ⟨by rfl, ?_⟩) hHeld ?_ ?_
      rotate_left
      · rintro w' ⟨s0, s1, s2, s3, s4, s5, s6⟩
        go_simp
        with_reducible rfl
      rotate_left
      · simp only [Act.put, List.setIfInBounds_toArray, List.set_cons_zero, List.set_cons_succ, i64_w, i32_w]
        rfl
      refine take_ (i := 13) (N := some 35) (v := ?_) (a' := ?_) #[true, false, true, true, true, true, false, true, true, true, true, false, true, true, false, false, false, false] rfl rfl (by kernel_rfl) (fun _ _ _ h => h) (Or.inl ⟨by rfl, ?_⟩) hHeld ?_ ?_
      rotate_left
      · rintro w' ⟨s0, s1, s2, s3, s4, s5, s6⟩
        go_simp
        with_reducible rfl
      rotate_left
      · simp only [Act.put, List.setIfInBounds_toArray, List.set_cons_zero, List.set_cons_succ, i64_w, i32_w]
        rfl
      refine take_ (i := 14) (N := some 36) (v := ?_) (a' := ?_) #[true, false, true, true, true, true, false, true, true, true, true, false, true, true, true, false, false, false] rfl rfl (by kernel_rfl) (fun _ _ _ h => h) (Or.inl ⟨by rfl, ?_⟩) hHeld ?_ ?_
      rotate_left
      · rintro w' ⟨s0, s1, s2, s3, s4, s5, s6⟩
        refine row_loads 24 (.tmp 3) ?_ (w.heap.size + 1) ?_ s1 Try.underlying24 ?_ ?_
        · rfl
        · rfl
        · rfl
        · kernel_rfl
      rotate_left
      · simp only [Act.put, List.setIfInBounds_toArray, List.set_cons_zero, List.set_cons_succ, i64_w, i32_w]
        rfl
      refine one_ (i := 1) (N := some 23) #[true, true, true, true, true, true, false, true, true, true, true, false, true, true, true, false, false, false] rfl rfl (by kernel_rfl) (by decide) (fun K hK => ?_)
      refine goes_ Try.func25 (by kernel_rfl) rfl #[.agg #[.slice X0 x.f0.length x0, .slice X1 x.f1.length x1, .string x.f2]] (by rfl) rfl rfl (by simp only [List.map_toArray, List.map_cons, List.map_nil]; rfl) ?_
      with_reducible refine (rimageSum_calls X0 x0 x.f0 X1 x1 x.f1 x.f2 _ (Kd.C_below hX0 W0.out) hx0 (Kd.C_below hX1 W0.out) hx1 hmx hLx).mono ?_
      rintro e w3 ⟨rfl, hb⟩
      refine ⟨_, rfl, ?_⟩
      have BA1 := Aside0.mk (BA0.out.below hb BA0.out.lt)
      have BB1 := Aside0.mk (BB0.out.below hb BB0.out.lt)
      have BD1 := Aside0.mk (BD0.out.below hb BD0.out.lt)
      have W1 := Aside0.mk (below_then W0.out W0.out.size hb)
      clear hb
      refine hK.out _ _ ⟨BA1.out, BB1.out, (BA1.out.cell 0), (BA1.out.cell 1), (BB1.out.cell 0), (BB1.out.cell 1), (BB1.out.cell 2)⟩ (fun hHeld => ?_)
      clear hK K
      refine norm_ (a' := ?_) ?_ ?_
      rotate_left
      · show Act.put _ (some 23) _ = _
        simp only [Act.put, List.setIfInBounds_toArray, List.set_cons_zero, List.set_cons_succ, i64_w, i32_w]
        rfl
      refine one_ (i := 6) (N := some 28) #[true, true, true, true, true, true, true, true, true, true, true, false, true, true, true, false, false, false] rfl rfl (by kernel_rfl) (by decide) (fun K hK => ?_)
      refine goes_ Try.func26 (by kernel_rfl) rfl #[.slice X0 x.f0.length x0, .slice P0 b.f0.length p0] (by rfl) rfl rfl (by simp only [List.map_toArray, List.map_cons, List.map_nil]; rfl) ?_
      with_reducible refine (hibernacleref35_others.calls k X0 x0 x.f0 P0 p0 b.f0 r1 _ (Kd.C_below hX0 W1.out) hx0 (Kd.C_below hP0 W1.out) hp0 hr1).mono ?_
      rintro e w4 ⟨v1, rfl, hR, hb⟩
      refine ⟨_, rfl, ?_⟩
      obtain ⟨U1, u1, rfl⟩ := Kd.R_slice hR
      have BA2 := Aside0.mk (BA1.out.below hb BA1.out.lt)
      have BB2 := Aside0.mk (BB1.out.below hb BB1.out.lt)
      have BD2 := Aside0.mk (BD1.out.below hb BD1.out.lt)
      have W2 := Aside0.mk (below_then W1.out W1.out.size hb)
      have C12 := Aside0.mk hR
      clear hb hR
      refine hK.out _ _ ⟨BA2.out, BB2.out, (BA2.out.cell 0), (BA2.out.cell 1), (BB2.out.cell 0), (BB2.out.cell 1), (BB2.out.cell 2)⟩ (fun hHeld => ?_)
      clear hK K
      refine norm_ (a' := ?_) ?_ ?_
      rotate_left
      · show Act.put _ (some 28) _ = _
        simp only [Act.put, List.setIfInBounds_toArray, List.set_cons_zero, List.set_cons_succ, i64_w, i32_w]
        rfl
      refine one_ (i := 11) (N := some 33) #[true, true, true, true, true, true, true, true, true, true, true, true, true, true, true, false, false, false] rfl rfl (by kernel_rfl) (by decide) (fun K hK => ?_)
      refine goes_ Try.func26 (by kernel_rfl) rfl #[.slice X1 x.f1.length x1, .slice P1 b.f1.length p1] (by rfl) rfl rfl (by simp only [List.map_toArray, List.map_cons, List.map_nil]; rfl) ?_
      with_reducible refine (hibernacleref35_others.calls k X1 x1 x.f1 P1 p1 b.f1 r2 _ (Kd.C_below hX1 W2.out) hx1 (Kd.C_below hP1 W2.out) hp1 hr2).mono ?_
      rintro e w5 ⟨v2, rfl, hR, hb⟩
      refine ⟨_, rfl, ?_⟩
      obtain ⟨U2, u2, rfl⟩ := Kd.R_slice hR
      have BA3 := Aside0.mk (BA2.out.below hb BA2.out.lt)
      have BB3 := Aside0.mk (BB2.out.below hb BB2.out.lt)
      have BD3 := Aside0.mk (BD2.out.below hb BD2.out.lt)
      have W3 := Aside0.mk (below_then W2.out W2.out.size hb)
      have C13 := Aside0.mk (Kd.R_below C12.out hb)
      have C23 := Aside0.mk hR
      clear hb hR
      refine hK.out _ _ ⟨BA3.out, BB3.out, (BA3.out.cell 0), (BA3.out.cell 1), (BB3.out.cell 0), (BB3.out.cell 1), (BB3.out.cell 2)⟩ (fun hHeld => ?_)
      clear hK K
      refine norm_ (a' := ?_) ?_ ?_
      rotate_left
      · show Act.put _ (some 33) _ = _
        simp only [Act.put, List.setIfInBounds_toArray, List.set_cons_zero, List.set_cons_succ, i64_w, i32_w]
        rfl
      refine one_ (i := 15) (N := some 37) #[true, true, true, true, true, true, true, true, true, true, true, true, true, true, true, true, false, false] rfl rfl (by kernel_rfl) (by decide) (fun K hK => ?_)
      refine goes_ Try.func25 (by kernel_rfl) rfl #[.agg #[.slice P0 b.f0.length p0, .slice P1 b.f1.length p1, .string b.f2]] (by rfl) rfl rfl (by simp only [List.map_toArray, List.map_cons, List.map_nil]; rfl) ?_
      with_reducible refine (rimageSum_calls P0 p0 b.f0 P1 p1 b.f1 b.f2 _ (Kd.C_below hP0 W3.out) hp0 (Kd.C_below hP1 W3.out) hp1 hmb hLb).mono ?_
      rintro e w6 ⟨rfl, hb⟩
      refine ⟨_, rfl, ?_⟩
      have BA4 := Aside0.mk (BA3.out.below hb BA3.out.lt)
      have BB4 := Aside0.mk (BB3.out.below hb BB3.out.lt)
      have BD4 := Aside0.mk (BD3.out.below hb BD3.out.lt)
      have W4 := Aside0.mk (below_then W3.out W3.out.size hb)
      have C14 := Aside0.mk (Kd.R_below C13.out hb)
      have C24 := Aside0.mk (Kd.R_below C23.out hb)
      clear hb
      refine hK.out _ _ ⟨BA4.out, BB4.out, (BA4.out.cell 0), (BA4.out.cell 1), (BB4.out.cell 0), (BB4.out.cell 1), (BB4.out.cell 2)⟩ (fun hHeld => ?_)
      clear hK K
      refine norm_ (a' := ?_) ?_ ?_
      rotate_left
      · show Act.put _ (some 37) _ = _
        simp only [Act.put, List.setIfInBounds_toArray, List.set_cons_zero, List.set_cons_succ, i64_w, i32_w]
        rfl
      refine pure_ (i := 16) (N := some 38) (v := ?_) (a' := ?_) #[true, true, true, true, true, true, true, true, true, true, true, true, true, true, true, true, true, false] rfl rfl (by kernel_rfl) (fun _ _ _ h => h) (Or.inl ⟨by rfl, ?_⟩) ?_ ?_
      rotate_left
      · intro w'
        refine op_builds 32 #[(0, .tmp 23), (1, .tmp 28), (2, .tmp 33), (3, .tmp 35), (4, .tmp 37)] ?_ (dArr (imgSum x.f0 x.f1 x.f2) (.slice U1 r1.length u1) (.slice U2 r2.length u2) b.f2 (imgSum b.f0 b.f1 b.f2)) ((congrArg (Try.prog.built 32) ?_).trans (built_delta (imgSum_len x.f0 x.f1 x.f2) (imgSum_len b.f0 b.f1 b.f2) U1 r1.length u1 U2 r2.length u2 b.f2))
        · rfl
        · simp only [List.map_toArray, List.map_cons, List.map_nil]
          rfl
      rotate_left
      · simp only [Act.put, List.setIfInBounds_toArray, List.set_cons_zero, List.set_cons_succ, i64_w, i32_w]
        rfl
      refine last_ (i := 17) (N := none) #[true, true, true, true, true, true, true, true, true, true, true, true, true, true, true, true, true, true] rfl rfl (by kernel_rfl) (by decide) (fun K hK => ?_)
      refine skip_ (w1 := w6.setRow (w.heap.size + 1 + 1) (dArr (imgSum x.f0 x.f1 x.f2) (.slice U1 r1.length u1) (.slice U2 r2.length u2) b.f2 (imgSum b.f0 b.f1 b.f2))) (by rfl) rfl ?_ ?_
      · exact row_stores 32 (.tmp 4) (.tmp 38) rfl (w.heap.size + 1 + 1) _ rfl rfl BD4.out (by rw [dArr_size (imgSum_len _ _ _) (imgSum_len _ _ _)]; kernel_rfl) (by rw [dArr_size (imgSum_len _ _ _) (imgSum_len _ _ _), dArr_size (outL_len _ _) (outL_len _ _)]) (dArr_one _ _ _ _ _ _ _ _ _)
      refine hK.out _ _ ?_
      clear hK K
      refine done_ (by kernel_rfl) ?_

      clear hHeld
      go_wp2_with fail
      exact bodyPost_ret (results_cell_row (p := 4) (ty := 32) rfl _ _ (w.heap.size + 1 + 1) 32 _ (0, 0) _ rfl (BD4.out.setRow_ _) Try.underlying32 rfl (by rw [dArr_size (imgSum_len _ _ _) (imgSum_len _ _ _)]; kernel_rfl)) rfl ⟨U1, u1, U2, u2, rfl, Kd.R_lower (R_setRow C14.out (by have := BD1.out.lt; omega) _) W1.out.size, Kd.R_lower (R_setRow C24.out (by have := BD2.out.lt; omega) _) W2.out.size, below_setRow' W4.out (by omega) _⟩
end Go.Proofs.Ytoljjgabgdifbaa.H
namespace Go.Proofs.Ytoljjgabgdifbaa.H
open Go.RowKit Go.Proofs.YtoljjgabgdifbaaW.PrintWords Go.Proofs.YtoljjgabgdifbaaW.PrintLast Go.Proofs.YtoljjgabgdifbaaW.PrintMore
set_option linter.unusedVariables false
set_option linter.unusedSimpArgs false

theorem aOf_le (a b : S24) {n : Nat} (h0 : a.f0.length ≤ n) (h1 : a.f1.length ≤ n) : (aOf a b).f0.length ≤ n ∧ (aOf a b).f1.length ≤ n := by
  unfold aOf
  split
  · simp
  · exact ⟨h0, h1⟩
theorem Kd.R_C {w : World} {base : Nat} {A : Option Addr} {c : Nat} {r : List S36} (h : Kd.R k36 36 w base (fun _ => True) (.slice A r.length c) r) : Kd.C k36 w A r.length r := (Kd.R_reads' h).2.2
theorem Kd.R_cap {w : World} {base : Nat} {A : Option Addr} {c : Nat} {r : List S36} (h : Kd.R k36 36 w base (fun _ => True) (.slice A r.length c) r) : r.length ≤ c := (Kd.R_reads' h).2.1
theorem imgs2r {w : World} {g : Nat} (A0 : Option Addr) (c0 : Nat) (A1 : Option Addr) (c1 : Nat) (a : S24) (P0 : Option Addr) (p0 : Nat) (P1 : Option Addr) (p1 : Nat) (b : S24)
    (hA0 : Kd.C Kd.string w A0 a.f0.length a.f0) (ha0 : a.f0.length ≤ c0) (hA1 : Kd.C Kd.string w A1 a.f1.length a.f1) (ha1 : a.f1.length ≤ c1)
    (hP0 : Kd.C Kd.string w P0 b.f0.length b.f0) (hp0 : b.f0.length ≤ p0) (hP1 : Kd.C Kd.string w P1 b.f1.length b.f1) (hp1 : b.f1.length ≤ p1)
    (h : Blk w g 24 #[.slice A0 a.f0.length c0, .slice A1 a.f1.length c1, .string a.f2, .slice P0 b.f0.length p0, .slice P1 b.f1.length p1, .string b.f2]) : Kd.C k24 w (some ⟨g, 0, none⟩) [a, b].length [a, b] := by
  refine ⟨rfl, by simp, fun _ => ⟨_, rfl, fun j p hp => ?_⟩⟩
  match j, hp with
  | 0, hp =>
    obtain rfl : a = p := by simpa using hp
    refine ⟨[.slice A0 a.f0.length c0, .slice A1 a.f1.length c1, .string a.f2], rfl, k24_mk w a ha0 hA0 ha1 hA1, fun i u hu => ?_⟩
    rw [add_plain, h.cell]
    match i, hu with
    | 0, hu => exact hu
    | 1, hu => exact hu
    | 2, hu => exact hu
    | i + 3, hu => simp at hu
  | 1, hp =>
    obtain rfl : b = p := by simpa using hp
    refine ⟨[.slice P0 b.f0.length p0, .slice P1 b.f1.length p1, .string b.f2], rfl, k24_mk w b hp0 hP0 hp1 hP1, fun i u hu => ?_⟩
    rw [add_plain, h.cell]
    match i, hu with
    | 0, hu => exact hu
    | 1, hu => exact hu
    | 2, hu => exact hu
    | i + 3, hu => simp at hu
  | j + 2, hp => simp at hp

set_option maxRecDepth 100000 in
set_option maxHeartbeats 8000000 in
theorem is_calls (A0 : Option Addr) (c0 : Nat) (A1 : Option Addr) (c1 : Nat) (a : S24) (P0 : Option Addr) (p0 : Nat) (P1 : Option Addr) (p1 : Nat) (b : S24) (w : World)
    (hA0 : Kd.C Kd.string w A0 a.f0.length a.f0) (ha0 : a.f0.length ≤ c0) (hA1 : Kd.C Kd.string w A1 a.f1.length a.f1) (ha1 : a.f1.length ≤ c1)
    (hP0 : Kd.C Kd.string w P0 b.f0.length b.f0) (hp0 : b.f0.length ≤ p0) (hP1 : Kd.C Kd.string w P1 b.f1.length b.f1) (hp1 : b.f1.length ≤ p1)
    (hLa : (imageL a.f0 a.f1 a.f2).length ≤ 140737488355328) (hLb : (imageL b.f0 b.f1 b.f2).length ≤ 140737488355328)
    (hm : a.f0.length ≤ 5864062014805 ∧ a.f1.length ≤ 5864062014805 ∧ b.f0.length ≤ 5864062014805 ∧ b.f1.length ≤ 5864062014805) :
    Calls Try.prog 3 #[.agg #[.slice A0 a.f0.length c0, .slice A1 a.f1.length c1, .string a.f2], .agg #[.slice P0 b.f0.length p0, .slice P1 b.f1.length p1, .string b.f2]] w fun e w' => e = .returned (.bool true) ∧ Below w.heap.size w w' := by
  have BA := Blk.new w 24 #[.slice A0 a.f0.length c0, .slice A1 a.f1.length c1, .string a.f2]
  have BB := Blk.new (w.alloc (.cells #[.slice A0 a.f0.length c0, .slice A1 a.f1.length c1, .string a.f2] 24)) 24 #[.slice P0 b.f0.length p0, .slice P1 b.f1.length p1, .string b.f2]
  have BA := BA.alloc (.cells #[.slice P0 b.f0.length p0, .slice P1 b.f1.length p1, .string b.f2] 24)
  have W0 := ((Below.refl w.heap.size w).alloc (Nat.le_refl _) (.cells #[.slice A0 a.f0.length c0, .slice A1 a.f1.length c1, .string a.f2] 24)).alloc (by simp) (.cells #[.slice P0 b.f0.length p0, .slice P1 b.f1.length p1, .string b.f2] 24)
  rw [sz] at BB
  generalize hw0 : ((w.alloc (.cells #[.slice A0 a.f0.length c0, .slice A1 a.f1.length c1, .string a.f2] 24)).alloc (.cells #[.slice P0 b.f0.length p0, .slice P1 b.f1.length p1, .string b.f2] 24)) = w0 at BA BB W0
  have HW0 := Aside0.mk hw0
  clear hw0
  obtain ⟨kg, rg, hg⟩ := great_f 5864062014805 [a, b] (by simp) (by simp; omega) (Nat.le_refl _)
  have W1 := W0.alloc (by have := W0.size; omega) (.cells #[.slice A0 a.f0.length c0, .slice A1 a.f1.length c1, .string a.f2, .slice P0 b.f0.length p0, .slice P1 b.f1.length p1, .string b.f2] 24)
  have G1 := imgs2r A0 c0 A1 c1 a P0 p0 P1 p1 b (Kd.C_below hA0 W1) ha0 (Kd.C_below hA1 W1) ha1 (Kd.C_below hP0 W1) hp0 (Kd.C_below hP1 W1) hp1 (Blk.new w0 24 _)
  have BA1 := Aside0.mk (BA.alloc (.cells #[.slice A0 a.f0.length c0, .slice A1 a.f1.length c1, .string a.f2, .slice P0 b.f0.length p0, .slice P1 b.f1.length p1, .string b.f2] 24))
  have BB1 := Aside0.mk (BB.alloc (.cells #[.slice A0 a.f0.length c0, .slice A1 a.f1.length c1, .string a.f2, .slice P0 b.f0.length p0, .slice P1 b.f1.length p1, .string b.f2] 24))
  have W1 := Aside0.mk W1
  have GC := Aside0.mk (hibernaclelaw35_great.calls kg _ 2 [a, b] rg _ G1 (by simp) hg)
  have BA := Aside0.mk BA
  have BB := Aside0.mk BB
  have W0 := Aside0.mk W0
  go_enter Try.func3, Try.ntmps3
  go_wp2_with (first | (rw [show ((w.alloc (.cells #[.slice A0 a.f0.length c0, .slice A1 a.f1.length c1, .string a.f2] 24)).alloc (.cells #[.slice P0 b.f0.length p0, .slice P1 b.f1.length p1, .string b.f2] 24)) = w0 from HW0.out]) | (refine wpList_load_row rfl 24 (.tmp 2) rfl w.heap.size rfl 24 _ (0, 0) _ BA.out Try.underlying24 rfl (by kernel_rfl) ?_) | (refine wpList_load_row rfl 24 (.tmp 3) rfl (w.heap.size + 1) rfl 24 _ (0, 0) _ BB.out Try.underlying24 rfl (by kernel_rfl) ?_))
  have e1 : ∀ l : List ByteArray, ∀ m : List ByteArray, l.length = m.length ∨ l.length ≠ m.length := fun l m => by omega
  refine (GC.out).mono ?_
  rintro e w2 ⟨rfl, hb⟩
  have qa := Aside0.mk (BA1.out.below hb BA1.out.lt)
  have qb := Aside0.mk (BB1.out.below hb BB1.out.lt)
  have W2 := Aside0.mk (below_then W1.out W1.out.size hb)
  clear hb GC G1 BA BB W0 BA1 BB1 W1 HW0 hg
  cases rg with
  | true =>
    go_wp2_with ((with_reducible refine (fixed_calls _).mono ?_); rintro e w3 ⟨rfl, hb⟩; have W3 := Aside0.mk (below_then W2.out W2.out.size hb); clear hb)
    go_wp2_with fail
    go_ret
    exact ⟨rfl, W3.out⟩
  | false =>
    have hr1 := writes_f (aOf a b).f0 b.f0 hm.2.2.1 (k := 5864062014806) (by omega)
    have hr2 := writes_f (aOf a b).f1 b.f1 hm.2.2.2 (k := 5864062014806) (by omega)
    have hs1 := others_f (aOf a b).f0 b.f0 hm.2.2.1 (k := 5864062014806) (by omega)
    have hs2 := others_f (aOf a b).f1 b.f1 hm.2.2.2 (k := 5864062014806) (by omega)
    have m1 := Nat.le_trans (chg_len (aOf a b).f0 b.f0 b.f0.length) hm.2.2.1
    have m2 := Nat.le_trans (chg_len (aOf a b).f1 b.f1 b.f1.length) hm.2.2.2
    have hma := And.intro hm.1 hm.2.1
    have hmb := hm.2.2
    generalize chg (aOf a b).f0 b.f0 b.f0.length = r1 at hr1 hs1 m1
    generalize chg (aOf a b).f1 b.f1 b.f1.length = r2 at hr2 hs2 m2
    clear e1
    go_wp2_with fail
    have qa2 := Aside0.mk qa.out.drew
    have qb2 := Aside0.mk qb.out.drew
    have W2 := Aside0.mk (below_drew W2.out)
    clear qa qb
    refine start_ (n := 11) (S := fun w' => Blk w' w.heap.size 24 #[.slice A0 a.f0.length c0, .slice A1 a.f1.length c1, .string a.f2] ∧ Blk w' (w.heap.size + 1) 24 #[.slice P0 b.f0.length p0, .slice P1 b.f1.length p1, .string b.f2]) (ds := []) #[false, false, false, false, false, false, false, false, false, false, false] (by kernel_rfl) rfl rfl ⟨qa2.out, qb2.out⟩ (fun hHeld => ?_)
    refine one_ (i := 0) (N := some 10) #[true, false, false, false, false, false, false, false, false, false, false] rfl rfl (by kernel_rfl) (by decide) (fun K hK => ?_)
    refine goes_ Try.func9 (by kernel_rfl) rfl #[] (by rfl) rfl rfl (by simp only [List.map_toArray, List.map_nil]) ?_
    with_reducible refine (fixed_calls _).mono ?_
    rintro e w3 ⟨rfl, hb⟩
    refine ⟨_, rfl, ?_⟩
    have qa3 := Aside0.mk (qa2.out.below hb qa2.out.lt)
    have qb3 := Aside0.mk (qb2.out.below hb qb2.out.lt)
    have W3 := Aside0.mk (below_then W2.out W2.out.size hb)
    clear hb
    refine hK.out _ _ ⟨qa3.out, qb3.out⟩ (fun hHeld => ?_)
    clear hK K
    refine norm_ (a' := ?_) ?_ ?_
    rotate_left
    · show Act.put _ (some 10) _ = _
      simp only [Act.put, List.setIfInBounds_toArray, List.set_cons_zero, List.set_cons_succ, i64_w, i32_w]
      rfl
    refine pure_ (i := 1) (N := some 11) (v := ?_) (a' := ?_) #[true, true, false, false, false, false, false, false, false, false, false] rfl rfl (by kernel_rfl) (fun _ _ _ h => h) (Or.inl ⟨by rfl, ?_⟩) ?_ ?_
    rotate_left
    · intro w'
      go_simp
      with_reducible rfl
    rotate_left
    · simp only [Act.put, List.setIfInBounds_toArray, List.set_cons_zero, List.set_cons_succ, i64_w, i32_w]
      rfl
    refine take_ (i := 2) (N := some 12) (v := ?_) (a' := ?_) #[true, true, true, false, false, false, false, false, false, false, false] rfl rfl (by kernel_rfl) (fun _ _ _ h => h) (Or.inl ⟨by rfl, ?_⟩) hHeld ?_ ?_
    rotate_left
    · rintro w' ⟨s0, s1⟩
      refine row_loads 24 (.tmp 2) ?_ w.heap.size ?_ s0 Try.underlying24 ?_ ?_
      · rfl
      · rfl
      · rfl
      · kernel_rfl
    rotate_left
    · simp only [Act.put, List.setIfInBounds_toArray, List.set_cons_zero, List.set_cons_succ, i64_w, i32_w]
      rfl
    refine take_ (i := 3) (N := some 13) (v := ?_) (a' := ?_) #[true, true, true, true, false, false, false, false, false, false, false] rfl rfl (by kernel_rfl) (fun _ _ _ h => h) (Or.inl ⟨by rfl, ?_⟩) hHeld ?_ ?_
    rotate_left
    · rintro w' ⟨s0, s1⟩
      refine row_loads 24 (.tmp 3) ?_ (w.heap.size + 1) ?_ s1 Try.underlying24 ?_ ?_
      · rfl
      · rfl
      · rfl
      · kernel_rfl
    rotate_left
    · simp only [Act.put, List.setIfInBounds_toArray, List.set_cons_zero, List.set_cons_succ, i64_w, i32_w]
      rfl
    refine take_ (i := 5) (N := some 15) (v := ?_) (a' := ?_) #[true, true, true, true, false, true, false, false, false, false, false] rfl rfl (by kernel_rfl) (fun _ _ _ h => h) (Or.inl ⟨by rfl, ?_⟩) hHeld ?_ ?_
    rotate_left
    · rintro w' ⟨s0, s1⟩
      refine row_loads 24 (.tmp 2) ?_ w.heap.size ?_ s0 Try.underlying24 ?_ ?_
      · rfl
      · rfl
      · rfl
      · kernel_rfl
    rotate_left
    · simp only [Act.put, List.setIfInBounds_toArray, List.set_cons_zero, List.set_cons_succ, i64_w, i32_w]
      rfl
    refine take_ (i := 6) (N := some 16) (v := ?_) (a' := ?_) #[true, true, true, true, false, true, true, false, false, false, false] rfl rfl (by kernel_rfl) (fun _ _ _ h => h) (Or.inl ⟨by rfl, ?_⟩) hHeld ?_ ?_
    rotate_left
    · rintro w' ⟨s0, s1⟩
      refine row_loads 24 (.tmp 3) ?_ (w.heap.size + 1) ?_ s1 Try.underlying24 ?_ ?_
      · rfl
      · rfl
      · rfl
      · kernel_rfl
    rotate_left
    · simp only [Act.put, List.setIfInBounds_toArray, List.set_cons_zero, List.set_cons_succ, i64_w, i32_w]
      rfl
    refine one_ (i := 4) (N := some 14) #[true, true, true, true, true, true, true, false, false, false, false] rfl rfl (by kernel_rfl) (by decide) (fun K hK => ?_)
    refine goes_ Try.func11 (by kernel_rfl) rfl #[.agg #[.slice A0 a.f0.length c0, .slice A1 a.f1.length c1, .string a.f2], .agg #[.slice P0 b.f0.length p0, .slice P1 b.f1.length p1, .string b.f2]] (by rfl) rfl rfl (by simp only [List.map_toArray, List.map_cons, List.map_nil]; rfl) ?_
    with_reducible refine (of_calls 5864062014806 A0 c0 A1 c1 a P0 p0 P1 p1 b r1 r2 _ (Kd.C_below hA0 W3.out) ha0 (Kd.C_below hA1 W3.out) ha1 (Kd.C_below hP0 W3.out) hp0 (Kd.C_below hP1 W3.out) hp1 hLa hLb hr1 hr2).mono ?_
    rintro e w4 ⟨U1, u1, U2, u2, rfl, hR1, hR2, hb⟩
    refine ⟨_, rfl, ?_⟩
    have qa4 := Aside0.mk (qa3.out.below hb qa3.out.lt)
    have qb4 := Aside0.mk (qb3.out.below hb qb3.out.lt)
    have W4 := Aside0.mk (below_then W3.out W3.out.size hb)
    have R14 := Aside0.mk hR1
    have R24 := Aside0.mk hR2
    clear hb hR1 hR2
    refine hK.out _ _ ⟨qa4.out, qb4.out⟩ (fun hHeld => ?_)
    clear hK K
    refine norm_ (a' := ?_) ?_ ?_
    rotate_left
    · show Act.put _ (some 14) _ = _
      simp only [Act.put, List.setIfInBounds_toArray, List.set_cons_zero, List.set_cons_succ, i64_w, i32_w]
      rfl
    refine one_ (i := 7) (N := some 17) #[true, true, true, true, true, true, true, true, false, false, false] rfl rfl (by kernel_rfl) (by decide) (fun K hK => ?_)
    refine goes_ Try.func12 (by kernel_rfl) rfl #[.agg #[.slice A0 a.f0.length c0, .slice A1 a.f1.length c1, .string a.f2], .agg #[.slice P0 b.f0.length p0, .slice P1 b.f1.length p1, .string b.f2]] (by rfl) rfl rfl (by simp only [List.map_toArray, List.map_cons, List.map_nil]; rfl) ?_
    with_reducible refine (rof_calls 5864062014806 A0 c0 A1 c1 a P0 p0 P1 p1 b r1 r2 _ (Kd.C_below hA0 W4.out) ha0 (Kd.C_below hA1 W4.out) ha1 (Kd.C_below hP0 W4.out) hp0 (Kd.C_below hP1 W4.out) hp1 hLa hLb hma hmb hs1 hs2).mono ?_
    rintro e w5 ⟨V1, v1, V2, v2, rfl, hR1, hR2, hb⟩
    refine ⟨_, rfl, ?_⟩
    have qa5 := Aside0.mk (qa4.out.below hb qa4.out.lt)
    have qb5 := Aside0.mk (qb4.out.below hb qb4.out.lt)
    have W5 := Aside0.mk (below_then W4.out W4.out.size hb)
    have R15 := Aside0.mk (Kd.R_below R14.out hb)
    have R25 := Aside0.mk (Kd.R_below R24.out hb)
    have T15 := Aside0.mk hR1
    have T25 := Aside0.mk hR2
    clear hb hR1 hR2
    refine hK.out _ _ ⟨qa5.out, qb5.out⟩ (fun hHeld => ?_)
    clear hK K
    refine norm_ (a' := ?_) ?_ ?_
    rotate_left
    · show Act.put _ (some 17) _ = _
      simp only [Act.put, List.setIfInBounds_toArray, List.set_cons_zero, List.set_cons_succ, i64_w, i32_w]
      rfl
    refine one_ (i := 8) (N := some 18) #[true, true, true, true, true, true, true, true, true, false, false] rfl rfl (by kernel_rfl) (by decide) (fun K hK => ?_)
    refine goes_ Try.func10 (by kernel_rfl) rfl #[.agg (dArr (imgSum (aOf a b).f0 (aOf a b).f1 (aOf a b).f2) (.slice U1 r1.length u1) (.slice U2 r2.length u2) b.f2 (imgSum b.f0 b.f1 b.f2)), .agg (dArr (imgSum (aOf a b).f0 (aOf a b).f1 (aOf a b).f2) (.slice V1 r1.length v1) (.slice V2 r2.length v2) b.f2 (imgSum b.f0 b.f1 b.f2))] (by rfl) rfl rfl (by simp only [List.map_toArray, List.map_cons, List.map_nil]; rfl) ?_
    with_reducible refine (same_calls (imgSum (aOf a b).f0 (aOf a b).f1 (aOf a b).f2) (imgSum b.f0 b.f1 b.f2) (imgSum_dig _ _ _) (imgSum_dig _ _ _) U1 u1 U2 u2 V1 v1 V2 v2 r1 r2 b.f2 _ (Kd.R_C R15.out) (Kd.R_cap R15.out) (Kd.R_C R25.out) (Kd.R_cap R25.out) (Kd.R_C T15.out) (Kd.R_cap T15.out) (Kd.R_C T25.out) (Kd.R_cap T25.out) m1 m2).mono ?_
    rintro e w6 ⟨rfl, hb⟩
    refine ⟨_, rfl, ?_⟩
    have qa6 := Aside0.mk (qa5.out.below hb qa5.out.lt)
    have qb6 := Aside0.mk (qb5.out.below hb qb5.out.lt)
    have W6 := Aside0.mk (below_then W5.out W5.out.size hb)
    clear hb
    refine hK.out _ _ ⟨qa6.out, qb6.out⟩ (fun hHeld => ?_)
    clear hK K
    refine norm_ (a' := ?_) ?_ ?_
    rotate_left
    · show Act.put _ (some 18) _ = _
      simp only [Act.put, List.setIfInBounds_toArray, List.set_cons_zero, List.set_cons_succ, i64_w, i32_w]
      rfl
    refine pure_ (i := 9) (N := some 19) (v := ?_) (a' := ?_) #[true, true, true, true, true, true, true, true, true, true, false] rfl rfl (by kernel_rfl) (fun _ _ _ h => h) (Or.inl ⟨by rfl, ?_⟩) ?_ ?_
    rotate_left
    · intro w'
      go_simp
      with_reducible rfl
    rotate_left
    · simp only [Act.put, List.setIfInBounds_toArray, List.set_cons_zero, List.set_cons_succ, i64_w, i32_w]
      rfl
    refine pure_ (i := 10) (N := some 4) (v := ?_) (a' := ?_) #[true, true, true, true, true, true, true, true, true, true, true] rfl rfl (by kernel_rfl) (fun _ _ _ h => h) (Or.inl ⟨by rfl, ?_⟩) ?_ ?_
    rotate_left
    · intro w'
      go_simp
      with_reducible rfl
    rotate_left
    · simp only [Act.put, List.setIfInBounds_toArray, List.set_cons_zero, List.set_cons_succ, i64_w, i32_w]
      rfl
    refine done_ (by kernel_rfl) ?_

    clear hHeld
    go_wp2_with fail
    go_ret
    exact ⟨rfl, W6.out⟩
end Go.Proofs.Ytoljjgabgdifbaa.H
