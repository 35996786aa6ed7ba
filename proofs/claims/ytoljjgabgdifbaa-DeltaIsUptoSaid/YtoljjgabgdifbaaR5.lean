/- Layer 35's answer: are two deltas the same. -/
import Derived.Test.YtoljjgabgdifbaaG3
import Derived.Test.YtoljjgabgdifbaaH13
import Derived.Test.YtoljjgabgdifbaaH14
import Derived.Deep.MidRow
import Derived.Stop.BytesEq
namespace Go.Proofs.Ytoljjgabgdifbaa.H
open Go.RowKit Go.Proofs.YtoljjgabgdifbaaW.PrintWords Go.Proofs.YtoljjgabgdifbaaW.PrintLast Go.Proofs.YtoljjgabgdifbaaW.PrintMore
set_option linter.unusedVariables false
set_option linter.unusedSimpArgs false

/-- A digest's numbers. -/
structure Dig (L : List Int) : Prop where
  len : L.length = 32
  rg : ∀ v ∈ L, 0 ≤ v ∧ v < 256
theorem outL_dig (h : List Int) : Dig (outL h 32) := by
  refine ⟨outL_len _ _, fun v hv => ?_⟩
  simp only [outL, List.mem_map] at hv
  obtain ⟨i, _, rfl⟩ := hv
  split
  · unfold outAt
    omega
  · omega
theorem sumL_dig (s : ByteArray) : Dig (sumL s) := outL_dig _
theorem imgSum_dig (f0 f1 : List ByteArray) (s : ByteArray) : Dig (imgSum f0 f1 s) := sumL_dig _
def byteL (L : List Int) : List UInt8 := L.map fun n => UInt8.ofNat n.toNat
theorem byteL_cells {L : List Int} (h : ∀ v ∈ L, 0 ≤ v ∧ v < 256) : nums .u8 L = (byteL L).map Extern.Stop.cell := by
  simp only [nums, byteL, List.map_map]
  apply List.map_congr_left
  intro v hv
  have := h v hv
  simp only [Function.comp, Extern.Stop.cell, UInt8.toNat_ofNat']
  rw [show Int.ofNat (v.toNat % 2 ^ 8) = v from by show ((v.toNat % 2 ^ 8 : Nat) : Int) = v; omega]
theorem byteL_inj {L M : List Int} (hL : ∀ v ∈ L, 0 ≤ v ∧ v < 256) (hM : ∀ v ∈ M, 0 ≤ v ∧ v < 256) (h : byteL L = byteL M) : L = M := by
  have e : ∀ L : List Int, (∀ v ∈ L, 0 ≤ v ∧ v < 256) → (byteL L).map (fun b => (b.toNat : Int)) = L := by
    intro L hL
    simp only [byteL, List.map_map]
    rw [List.map_congr_left (g := id)]
    · simp
    · intro v hv
      have := hL v hv
      simp only [Function.comp, UInt8.toNat_ofNat', id]
      omega
  rw [← e L hL, ← e M hM, h]
/-- Two digests are the same just if their numbers are. -/
theorem eq_dig {L M : List Int} (hL : Dig L) (hM : Dig M) (w : World) : (Op.equalIn 10000 29 (.agg (nums .u8 L).toArray) (.agg (nums .u8 M).toArray)).run Try.prog w = .ok (decide (L = M)) w := by
  rw [byteL_cells hL.rg, byteL_cells hM.rg, run_equalIn_bytes w 9998 29 5 32 Try.underlying29 Try.underlying5 (fun w => Try.sizeOf5 w) (byteL L) (byteL M) (by simp [byteL, hL.len]) (by simp [byteL, hM.len])]
  congr 1
  rw [Bool.eq_iff_iff, beq_iff_eq, decide_eq_true_iff]
  exact ⟨fun h => byteL_inj hL.rg hM.rg h, fun h => by rw [h]⟩
theorem same_l0 (r : List S36) (hr : r.length ≤ 5864062014805) : ∀ (d i k : Nat), i + d = r.length → d < k → hibernacleref35_sameWrites.l0 k r r (i : Int) = some true
  | 0, i, k, h, hk => by
    obtain ⟨k, rfl⟩ : ∃ m, k = m + 1 := ⟨k - 1, by omega⟩
    rw [hibernacleref35_sameWrites.l0, if_neg (by omega)]
  | d + 1, i, k, h, hk => by
    obtain ⟨k, rfl⟩ : ∃ m, k = m + 1 := ⟨k - 1, by omega⟩
    rw [hibernacleref35_sameWrites.l0, if_pos (by omega), if_pos (by omega), if_pos (by omega), if_neg (by simp), wrap_succ (show i < r.length by omega) hr]
    exact same_l0 r hr d (i + 1) k (by omega) (by omega)
theorem same_f (r : List S36) (hr : r.length ≤ 5864062014805) : hibernacleref35_sameWrites.f (r.length + 1) r r = some true := by
  unfold hibernacleref35_sameWrites.f
  rw [if_pos rfl]
  exact same_l0 r hr r.length 0 _ (by omega) (by omega)
theorem dArr_range (w : World) (g : Nat) (L M : List Int) (hL : L.length = 32) (hM : M.length = 32) (v1 v2 : Value) (s : ByteArray) (h : Blk w g 32 (dArr L v1 v2 s M)) : w.rangeAt g 0 (nums .u8 L) ∧ w.rangeAt g 35 (nums .u8 M) := by
  have n0 : (nums .u8 L).length = 32 := by rw [nums_length]; exact hL
  constructor
  · intro j v hj
    have hlt : j < 32 := by rw [← n0]; exact (List.getElem?_eq_some_iff.1 hj).1
    rw [Nat.zero_add, h.cell, ← hj]
    unfold dArr
    rw [List.getElem?_toArray, List.append_assoc, List.getElem?_append_left (by omega)]
  · intro j v hj
    rw [h.cell, ← hj]
    unfold dArr
    rw [List.getElem?_toArray, List.getElem?_append_right (by simp [n0]), List.length_append, n0]
    congr 1
    simp
theorem dArr_mid (L M : List Int) (hL : L.length = 32) (v1 v2 : Value) (s : ByteArray) : (dArr L v1 v2 s M)[32]? = some v1 ∧ (dArr L v1 v2 s M)[33]? = some v2 ∧ (dArr L v1 v2 s M)[34]? = some (.string s) := by
  have n0 : (nums .u8 L).length = 32 := by rw [nums_length]; exact hL
  unfold dArr
  rw [List.getElem?_toArray, List.getElem?_toArray, List.getElem?_toArray, List.append_assoc]
  refine ⟨?_, ?_, ?_⟩
  · rw [List.getElem?_append_right (by omega), n0]; rfl
  · rw [List.getElem?_append_right (by omega), n0]; rfl
  · rw [List.getElem?_append_right (by omega), n0]; rfl

theorem wpList_load_midg {ops : Array Oper} {rest : List Oper} {op : Oper} {a : Act} {w : World} {Q : Exit → Act → World → Prop} (hw : Region.wanted op (yielded ops a.tmps) = true) (ty : TypeId) (x : Operand) (ho : op.op = .load ty x)
    (b o : Nat) (hx : a.eval x = .pointer (some ⟨b, o, none⟩)) (cs : Array Value) (hc : (Instr.loadAt ty (.pointer (some ⟨b, o, none⟩))).run Try.prog w = .ok (.agg cs) w)
    (h : wpList Try.prog ops Q rest (a.put op.dst (.agg cs)) w) : wpList Try.prog ops Q (op :: rest) a w :=
  wpList_step fun K hK => by
    rw [if_pos hw]
    unfold Oper.wp execOp
    simp only [ho, hx, hc, Sem.run_bind, Sem.run_pure, Result.andThen_ok]
    exact hK _ _ h
set_option maxRecDepth 100000 in
set_option maxHeartbeats 8000000 in
theorem same_calls (L M : List Int) (hL : Dig L) (hM : Dig M) (A1 : Option Addr) (c1 : Nat) (A2 : Option Addr) (c2 : Nat) (B1 : Option Addr) (d1 : Nat) (B2 : Option Addr) (d2 : Nat) (r1 r2 : List S36) (s : ByteArray) (w : World)
    (h1 : Kd.C k36 w A1 r1.length r1) (k1 : r1.length ≤ c1) (h2 : Kd.C k36 w A2 r2.length r2) (k2 : r2.length ≤ c2) (h3 : Kd.C k36 w B1 r1.length r1) (k3 : r1.length ≤ d1) (h4 : Kd.C k36 w B2 r2.length r2) (k4 : r2.length ≤ d2)
    (m1 : r1.length ≤ 5864062014805) (m2 : r2.length ≤ 5864062014805) :
    Calls Try.prog 10 #[.agg (dArr L (.slice A1 r1.length c1) (.slice A2 r2.length c2) s M), .agg (dArr L (.slice B1 r1.length d1) (.slice B2 r2.length d2) s M)] w fun e w' => e = .returned (.bool true) ∧ Below w.heap.size w w' := by
  have BA := (Blk.new w 32 (dArr L (.slice A1 r1.length c1) (.slice A2 r2.length c2) s M)).alloc (.cells (dArr L (.slice B1 r1.length d1) (.slice B2 r2.length d2) s M) 32)
  have BB := Blk.new (w.alloc (.cells (dArr L (.slice A1 r1.length c1) (.slice A2 r2.length c2) s M) 32)) 32 (dArr L (.slice B1 r1.length d1) (.slice B2 r2.length d2) s M)
  have W0 := ((Below.refl w.heap.size w).alloc (Nat.le_refl _) (.cells (dArr L (.slice A1 r1.length c1) (.slice A2 r2.length c2) s M) 32)).alloc (by simp) (.cells (dArr L (.slice B1 r1.length d1) (.slice B2 r2.length d2) s M) 32)
  rw [sz] at BB
  generalize hw0 : ((w.alloc (.cells (dArr L (.slice A1 r1.length c1) (.slice A2 r2.length c2) s M) 32)).alloc (.cells (dArr L (.slice B1 r1.length d1) (.slice B2 r2.length d2) s M) 32)) = w0 at BA BB W0
  have HW0 := Aside0.mk hw0
  clear hw0
  obtain ⟨ra1, ra2⟩ := dArr_range w0 _ L M hL.len hM.len _ _ s BA
  obtain ⟨rb1, rb2⟩ := dArr_range w0 _ L M hL.len hM.len _ _ s BB
  have n1 : (nums .u8 L).length = 32 := by rw [nums_length]; exact hL.len
  have n2 : (nums .u8 M).length = 32 := by rw [nums_length]; exact hM.len
  have l1 := run_loadAt_mid (P := Try.prog) w0 _ 0 29 _ _ ra1 Try.underlying29 rfl (by rw [n1]; kernel_rfl)
  have l2 := run_loadAt_mid (P := Try.prog) w0 _ 35 29 _ _ ra2 Try.underlying29 rfl (by rw [n2]; kernel_rfl)
  have l3 := run_loadAt_mid (P := Try.prog) w0 _ 0 29 _ _ rb1 Try.underlying29 rfl (by rw [n1]; kernel_rfl)
  have l4 := run_loadAt_mid (P := Try.prog) w0 _ 35 29 _ _ rb2 Try.underlying29 rfl (by rw [n2]; kernel_rfl)
  have l1 := Aside0.mk l1
  have l2 := Aside0.mk l2
  have l3 := Aside0.mk l3
  have l4 := Aside0.mk l4
  have q1 := eq_dig hL hL
  have q2 := eq_dig hM hM
  simp only [decide_true] at q1 q2
  obtain ⟨a1, a2, a3⟩ := dArr_mid L M hL.len (.slice A1 r1.length c1) (.slice A2 r2.length c2) s
  obtain ⟨b1, b2, b3⟩ := dArr_mid L M hL.len (.slice B1 r1.length d1) (.slice B2 r2.length d2) s
  have a1 := (BA.cell 32).trans a1
  have a2 := (BA.cell 33).trans a2
  have a3 := (BA.cell 34).trans a3
  have b1 := (BB.cell 32).trans b1
  have b2 := (BB.cell 33).trans b2
  have b3 := (BB.cell 34).trans b3
  have DL := Aside0.mk hL
  have DM := Aside0.mk hM
  have RA1 := Aside0.mk ra1
  have RB1 := Aside0.mk rb1
  have N1 := Aside0.mk n1
  have W0 := Aside0.mk W0
  clear ra1 ra2 rb1 rb2 n1 n2 BA BB hL hM
  generalize (nums .u8 L).toArray = LA at l1 l3 q1
  generalize (nums .u8 M).toArray = MA at l2 l4 q2
  go_enter Try.func10, Try.ntmps10
  go_wp2_with (first | rw [show ((w.alloc (.cells (dArr L (.slice A1 r1.length c1) (.slice A2 r2.length c2) s M) 32)).alloc (.cells (dArr L (.slice B1 r1.length d1) (.slice B2 r2.length d2) s M) 32)) = w0 from HW0.out] | (refine wpList_load_midg (by rfl) 29 (.tmp 5) rfl w.heap.size 0 rfl _ l1.out ?_) | (refine wpList_load_midg (by rfl) 29 (.tmp 7) rfl (w.heap.size + 1) 0 rfl _ l3.out ?_) | (refine wpList_load_midg (by rfl) 29 (.tmp 11) rfl w.heap.size 35 rfl _ l2.out ?_) | (refine wpList_load_midg (by rfl) 29 (.tmp 13) rfl (w.heap.size + 1) 35 rfl _ l4.out ?_))
  refine (hibernacleref35_sameWrites.calls _ A1 c1 r1 B1 d1 r1 true w0 (Kd.C_below h1 W0.out) k1 (Kd.C_below h3 W0.out) k3 (same_f r1 m1)).mono ?_
  rintro e w' ⟨rfl, ⟨n, rfl⟩⟩
  go_wp2_with fail
  refine (hibernacleref35_sameWrites.calls _ A2 c2 r2 B2 d2 r2 true _ (Kd.C_below h2 (pw_below_drewN W0.out n)) k2 (Kd.C_below h4 (pw_below_drewN W0.out n)) k4 (same_f r2 m2)).mono ?_
  rintro e w' ⟨rfl, ⟨m, rfl⟩⟩
  go_wp2_with fail
  go_ret
  exact ⟨rfl, pw_below_drewN W0.out (n + m)⟩
end Go.Proofs.Ytoljjgabgdifbaa.H
