/- Layer 32's answer: an image as bytes, its digest. -/
import Derived.Test.YtoljjgabgdifbaaR3
import Derived.Test.YtoljjgabgdifbaaH10
import Derived.Test.YtoljjgabgdifbaaG2
namespace Go.Proofs.Ytoljjgabgdifbaa.H
open Go.RowKit Go.Proofs.YtoljjgabgdifbaaW.PrintWords Go.Proofs.YtoljjgabgdifbaaW.PrintLast Go.Proofs.YtoljjgabgdifbaaW.PrintMore
set_option linter.unusedVariables false
set_option linter.unusedSimpArgs false

theorem nums_one_byte (b : UInt8) : strOfNums [(b.toNat : Int)] = ⟨#[b]⟩ := by
  simp [strOfNums]
theorem lenB_len : ∀ (k n : Nat), n < k → (lenB n).length ≤ n + 1
  | k + 1, n, h => by
    rw [lenB]
    split
    · have := lenB_len k (n / 128) (by omega)
      rw [List.length_cons]
      omega
    · simp
theorem wrap_succ' {i n : Nat} (h : i < n) (hn : n ≤ 5864062014805) : wrap64 ((i : Int) + 1) = ((i + 1 : Nat) : Int) := by
  rw [← i64_w, IntWalk.i64_in _ (by omega)]
  omega
theorem len_f : ∀ (k n : Nat), n < k → n ≤ 140737488355328 → hibernacleref01_length.f k (n : Int) = some ⟨(lenB n).toArray⟩ := by
  intro k
  induction k with
  | zero => intro n h; omega
  | succ k ih =>
    intro n h hn
    rw [hibernacleref01_length.f]
    by_cases c : 128 ≤ n
    · rw [if_neg (show ¬ (n : Int) < 128 by omega), Option.bind_some]
      have e1 : wrap64 (Int.tdiv (n : Int) 128) = ((n / 128 : Nat) : Int) := by
        rw [Int.tdiv_eq_ediv_of_nonneg (by omega)]
        rw [← i64_w, IntWalk.i64_in _ (by omega)]
        omega
      rw [e1, ih (n / 128) (by omega) (by omega), Option.bind_some]
      have e2 : (wrap64 (Int.tmod (n : Int) 128 + 128)) % 256 = ((UInt8.ofNat (n % 128 + 128)).toNat : Int) := by
        rw [Int.tmod_eq_emod_of_nonneg (by omega), ← i64_w, IntWalk.i64_in _ (by omega), UInt8.toNat_ofNat']
        omega
      rw [e2, nums_one_byte, lenB.eq_def n, if_pos c]
      have hl := lenB_len (n / 128 + 1) (n / 128) (by omega)
      have z1 : (ByteArray.mk #[UInt8.ofNat (n % 128 + 128)]).size = 1 := rfl
      have z2 : (ByteArray.mk (lenB (n / 128)).toArray).size = (lenB (n / 128)).length := by show (lenB (n / 128)).toArray.size = _; simp
      rw [z1, z2, if_pos (by omega)]
      rfl
    · rw [if_pos (show (n : Int) < 128 by omega), lenB, if_neg c]
      have e2 : (n : Int) % 256 = ((UInt8.ofNat n).toNat : Int) := by
        rw [UInt8.toNat_ofNat']
        omega
      rw [e2, nums_one_byte]
theorem row_l0 (l : List ByteArray) (hl : l.length ≤ 5864062014805) (hL : (rowB l).length ≤ 140737488355328) : ∀ (d i k : Nat), i + d = l.length → d + 140737488355328 < k → hibernacleref01_Row.l0 k ⟨(rowB (l.take i)).toArray⟩ l (l.length : Int) (i : Int) = some ⟨(rowB l).toArray⟩
  | 0, i, k, h, hk => by
    obtain ⟨k, rfl⟩ : ∃ m, k = m + 1 := ⟨k - 1, by omega⟩
    rw [hibernacleref01_Row.l0, if_neg (by omega), List.take_of_length_le (by omega)]
  | d + 1, i, k, h, hk => by
    obtain ⟨k, rfl⟩ : ∃ m, k = m + 1 := ⟨k - 1, by omega⟩
    have hi : i < l.length := by omega
    have er : rdOf ByteArray.empty l (i : Int) = l[i] := by simp [rdOf, List.getElem?_eq_getElem hi]
    have et : rowB (l.take (i + 1)) = rowB (l.take i) ++ (lenB l[i].size ++ l[i].data.toList) := by
      rw [List.take_add_one, List.getElem?_eq_getElem hi, rowB_append]
      simp [rowB]
    have ea : rowB l = rowB (l.take (i + 1)) ++ rowB (l.drop (i + 1)) := by rw [← rowB_append, List.take_append_drop]
    have hlen : (rowB (l.take i)).length + ((lenB l[i].size).length + l[i].size) ≤ 140737488355328 := by
      have := congrArg List.length ea
      rw [et] at this
      simp only [List.length_append, Array.length_toList] at this
      have e3 : l[i].data.size = l[i].size := rfl
      omega
    rw [hibernacleref01_Row.l0, if_pos (by omega), if_pos (by omega), if_pos (by omega), er, len_f k _ (by omega) (by omega), Option.bind_some]
    have z2 : ∀ x : List UInt8, (ByteArray.mk x.toArray).size = x.length := fun x => by show x.toArray.size = _; simp
    rw [z2, if_pos (by omega), ByteArray.size_append, z2, z2, if_pos (by omega), wrap_succ' (show i < l.length by omega) hl]
    have eb : (ByteArray.mk (rowB (l.take i)).toArray) ++ ((ByteArray.mk (lenB l[i].size).toArray) ++ l[i]) = ByteArray.mk (rowB (l.take (i + 1))).toArray := by
      apply ByteArray.ext
      rw [et]
      simp [ByteArray.data_append]
    rw [eb]
    exact row_l0 l hl hL d (i + 1) k (by omega) (by omega)
theorem row_f (l : List ByteArray) (hl : l.length ≤ 5864062014805) (hL : (rowB l).length ≤ 140737488355328) {k : Nat} (hk : l.length + 140737488355328 < k) : hibernacleref01_Row.f k l = some ⟨(rowB l).toArray⟩ := by
  unfold hibernacleref01_Row.f
  exact row_l0 l hl hL l.length 0 k (by omega) hk
theorem bytes_f (f0 f1 : List ByteArray) (s : ByteArray) (h0 : f0.length ≤ 5864062014805) (h1 : f1.length ≤ 5864062014805) (hL : (imageL f0 f1 s).length ≤ 140737488355328) : hibernacleref32_Bytes.f 281474976710656 f0 f1 s = some ⟨(imageL f0 f1 s).toArray⟩ := by
  have hl := imageL_len f0 f1 s
  unfold hibernacleref32_Bytes.f
  rw [row_f f0 h0 (by omega) (by omega), Option.bind_some, row_f f1 h1 (by omega) (by omega), Option.bind_some, show (⟨#[104, 105, 98, 105]⟩ : ByteArray) = hibi from rfl, row_f _ (by simp) hL (by simp), Option.bind_some]
  rfl
theorem rbytes_calls (A0 : Option Addr) (c0 : Nat) (f0 : List ByteArray) (A1 : Option Addr) (c1 : Nat) (f1 : List ByteArray) (s : ByteArray) (w : World) (h0 : Kd.C Kd.string w A0 f0.length f0) (l0 : f0.length ≤ c0) (h1 : Kd.C Kd.string w A1 f1.length f1) (l1 : f1.length ≤ c1)
    (hm : f0.length ≤ 5864062014805 ∧ f1.length ≤ 5864062014805) (hL : (imageL f0 f1 s).length ≤ 140737488355328) :
    Calls Try.prog 28 #[.agg #[.slice A0 f0.length c0, .slice A1 f1.length c1, .string s]] w fun e w' => e = .returned (.string ⟨(imageL f0 f1 s).toArray⟩) ∧ Below w.heap.size w w' :=
  hibernacleref32_Bytes.calls 281474976710656 A0 c0 f0 A1 c1 f1 s _ w h0 l0 h1 l1 (bytes_f f0 f1 s hm.1 hm.2 hL)
set_option maxRecDepth 100000 in
set_option maxHeartbeats 8000000 in
theorem rimageSum_calls (A0 : Option Addr) (c0 : Nat) (f0 : List ByteArray) (A1 : Option Addr) (c1 : Nat) (f1 : List ByteArray) (s : ByteArray) (w : World) (h0 : Kd.C Kd.string w A0 f0.length f0) (l0 : f0.length ≤ c0) (h1 : Kd.C Kd.string w A1 f1.length f1) (l1 : f1.length ≤ c1)
    (hm : f0.length ≤ 5864062014805 ∧ f1.length ≤ 5864062014805) (hL : (imageL f0 f1 s).length ≤ 140737488355328) :
    Calls Try.prog 25 #[.agg #[.slice A0 f0.length c0, .slice A1 f1.length c1, .string s]] w fun e w' => e = .returned (.agg (nums .u8 (imgSum f0 f1 s)).toArray) ∧ Below w.heap.size w w' := by
  have B0 := Blk.new w 24 #[.slice A0 f0.length c0, .slice A1 f1.length c1, .string s]
  have W0 := (Below.refl w.heap.size w).alloc (Nat.le_refl _) (.cells #[.slice A0 f0.length c0, .slice A1 f1.length c1, .string s] 24)
  have D0 := Blk.new (w.alloc (.cells #[.slice A0 f0.length c0, .slice A1 f1.length c1, .string s] 24)) 29 (nums .u8 (outL [] 0)).toArray
  have B0 := Aside0.mk (B0.alloc (.cells (nums .u8 (outL [] 0)).toArray 29))
  have W0 := Aside0.mk (W0.alloc (by rw [sz]; omega) (.cells (nums .u8 (outL [] 0)).toArray 29))
  rw [sz] at D0
  have D0 := Aside0.mk D0
  generalize hw0 : (w.alloc (.cells #[.slice A0 f0.length c0, .slice A1 f1.length c1, .string s] 24)).alloc (.cells (nums .u8 (outL [] 0)).toArray 29) = w0 at B0 W0 D0
  have HW0 := Aside0.mk hw0
  clear hw0
  go_enter Try.func25, Try.ntmps25
  go_wp2_with (rw [show ((w.alloc (.cells #[.slice A0 f0.length c0, .slice A1 f1.length c1, .string s] 24)).alloc (.cells #[.int .u8 0, .int .u8 0, .int .u8 0, .int .u8 0, .int .u8 0, .int .u8 0, .int .u8 0, .int .u8 0, .int .u8 0, .int .u8 0, .int .u8 0, .int .u8 0, .int .u8 0, .int .u8 0, .int .u8 0, .int .u8 0, .int .u8 0, .int .u8 0, .int .u8 0, .int .u8 0, .int .u8 0, .int .u8 0, .int .u8 0, .int .u8 0, .int .u8 0, .int .u8 0, .int .u8 0, .int .u8 0, .int .u8 0, .int .u8 0, .int .u8 0, .int .u8 0] 29)) = w0 from HW0.out]; (refine wpList_load_row rfl 24 (.tmp 1) rfl w.heap.size rfl 24 _ (0, 0) _ B0.out Try.underlying24 rfl (by kernel_rfl) ?_))
  go_wp2_with ((with_reducible refine (rbytes_calls A0 c0 f0 A1 c1 f1 s w0 (Kd.C_below h0 W0.out) l0 (Kd.C_below h1 W0.out) l1 hm hL).mono ?_); rintro e w1 ⟨rfl, hb⟩; have W1 := Aside0.mk (below_then W0.out W0.out.size hb); have D1 := Aside0.mk (D0.out.below hb D0.out.lt); clear hb)
  have W2 := W1.out.alloc (by have := W1.out.size; omega) (.cells #[.string ⟨(imageL f0 f1 s).toArray⟩] 9)
  have D2 := D1.out.alloc (.cells #[.string ⟨(imageL f0 f1 s).toArray⟩] 9)
  have S2 := (Blk.new w1 9 #[.string ⟨(imageL f0 f1 s).toArray⟩])
  generalize w1.alloc (.cells #[.string ⟨(imageL f0 f1 s).toArray⟩] 9) = w2 at W2 D2 S2 ⊢
  generalize w1.heap.size = g at S2 ⊢
  have S2l := S2.lt
  have W2 := Aside0.mk W2
  have D2 := Aside0.mk D2
  have S2 : Aside0 (w2.cell? ⟨g, 0, none⟩ = some (.string ⟨(imageL f0 f1 s).toArray⟩)) := ⟨S2.cell 0⟩
  have hL3 : (ByteArray.mk (imageL f0 f1 s).toArray).size ≤ 140737488355328 := by show (imageL f0 f1 s).toArray.size ≤ _; rw [List.size_toArray]; exact hL
  go_wp2_with (first | ((with_reducible refine (rsum_calls g 0 1 ⟨(imageL f0 f1 s).toArray⟩ w2 S2.out S2l hL3 (Nat.le_refl _)).mono ?_); rintro e w3 ⟨rfl, hb⟩; have W3 := Aside0.mk (below_then W2.out W2.out.size hb); have D3 := Aside0.mk (D2.out.below hb D2.out.lt); clear hb) | (refine wpList_store_row rfl 29 (.tmp 2) (.tmp 6) rfl (w.heap.size + 1) _ rfl rfl 29 _ D3.out (by rw [List.size_toArray, nums_length, sumL_len]; kernel_rfl) (by rw [List.size_toArray, nums_length, outL_len, List.size_toArray, nums_length, sumL_len]) (nums_all8 _) ?_))
  exact bodyPost_ret (results_cell_row (p := 2) (ty := 29) rfl _ _ (w.heap.size + 1) 29 _ (0, 0) _ rfl (D3.out.setRow_ _) Try.underlying29 rfl (by rw [List.size_toArray, nums_length, sumL_len]; kernel_rfl)) rfl ⟨rfl, below_setRow' W3.out (by omega) _⟩
end Go.Proofs.Ytoljjgabgdifbaa.H
