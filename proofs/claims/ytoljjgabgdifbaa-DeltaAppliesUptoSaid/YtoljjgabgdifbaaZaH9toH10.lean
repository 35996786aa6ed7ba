/- Layer 1 of the program: a row of texts as bytes. Layer 31 of the program: an image as bytes. -/
import Derived.Test.YtoljjgabgdifbaaZaR2toH8

namespace Go.Proofs.Ytoljjgabgdifbaa.H
open Go.RowKit Go.Proofs.YtoljjgabgdifbaaW.PrintWords Go.Proofs.YtoljjgabgdifbaaW.PrintLast Go.Proofs.YtoljjgabgdifbaaW.PrintMore
section
attribute [local go_sem] max2_int min2_int max_two min_two max_three min_three max_four min_four
set_option linter.unusedVariables false
set_option linter.unusedSimpArgs false
theorem info5 : (Try.prog.info? 5).map (fun i => (i.zero, i.size, i.bytes)) = some (some (.int .u8 0), 1, 1) := by kernel_rfl
-- printed by the kit's print.sh
def num_length.l0 : Nat → Int → List Int → Option (List Int)
  | 0, _, _ => none
  | k + 1, x0, x3 => if x0 ≥ 128 then (if x3.length < 140737488355328 then (num_length.l0 k (wrap64 (Int.tdiv x0 128)) (x3 ++ [(((Int.tmod x0 128) % 256) + 128) % 256])) else (none)) else (if x3.length < 140737488355328 then (some (x3 ++ [(x0) % 256])) else (none))
def num_length.f (k : Nat) (a0 : Int) : Option (List Int) := num_length.l0 k a0 ([] : List Int)
theorem num_length.mono_l : ∀ k, (∀ y0 y1, LeO (num_length.l0 k y0 y1) (num_length.l0 (k + 1) y0 y1))
  | 0 => fun _ _ r h => by simp [num_length.l0] at h
  | k + 1 => by
    have ih0 := num_length.mono_l k
    · intro y0 y1
      unfold num_length.l0
      repeat' first
      | (with_reducible exact ih0 _ _)
      | (with_reducible exact LeO.refl _)
      | (with_reducible exact LeO.none _)
      | (with_reducible refine LeO.ite ?_ ?_)
      | (with_reducible refine LeO.bind ?_ (fun _ => ?_))
      | exact ih0 _ _
      | exact LeO.none _
      | refine LeO.ite ?_ ?_
      | refine LeO.bind ?_ (fun _ => ?_)
theorem num_length.mono : ∀ a0 k, LeO (num_length.f k a0) (num_length.f (k + 1) a0) := by
  intro a0 k
  have ih0 := num_length.mono_l k
  unfold num_length.f
  repeat' first
      | (with_reducible exact ih0 _ _)
      | (with_reducible exact LeO.refl _)
      | (with_reducible exact LeO.none _)
      | (with_reducible refine LeO.ite ?_ ?_)
      | (with_reducible refine LeO.bind ?_ (fun _ => ?_))
      | exact ih0 _ _
      | exact LeO.none _
      | refine LeO.ite ?_ ?_
      | refine LeO.bind ?_ (fun _ => ?_)
set_option maxHeartbeats 8000000 in
set_option maxRecDepth 100000 in
theorem num_length.calls (k : Nat) (a0 : Int) (r : List Int) (w : World) (h : num_length.f k a0 = some r) :
    Calls Try.prog 64 #[.int .i64 a0] w fun e w' => ∃ v0_ : Value, e = .returned (v0_) ∧ Kd.R (Kd.int .u8) 5 w' w.heap.size (fun _ => True) v0_ r ∧ Below w.heap.size w w' := by
  have HB := Aside0.mk (Below.refl w.heap.size w)
  have H : (num_length.l0 k a0 ([] : List Int)) = some r := h
  clear h
  have H' := Aside0.mk H
  clear H
  go_enter Try.func64, Try.ntmps64
  go_wp2
  go_loopg [0, 3] k (fun kq v0 v3 w' => ∃ (x0_1 : Int) (x3_1 : List Int), v0 = .int .i64 x0_1 ∧ Aside0 (num_length.l0 kq x0_1 x3_1 = some r) ∧ Aside0 (kq ≤ k) ∧ Aside0 (Kd.R (Kd.int .u8) 5 w' w.heap.size (fun _ => True) v3 x3_1) ∧ Aside0 (Below w.heap.size w w'))
  case atStart => exact ⟨(a0), (([] : List Int)), (by first | rfl | (simp; done) | (simp [*]; done)), H', ⟨Nat.le_refl _⟩, ⟨by first | exact Kd.R_nil _ _ _ _ _ | exact Kd.N_nil _ _ _ _ _ | exact Kd.V_nil _ _ _ _ _ | exact Kd.Q_nil _ _ _ _ _ | exact Kd.S_nil _ _ _ _ _⟩, ⟨by repeat (first | (with_reducible first | exact HB.out | apply below_alloc | apply pw_below_drewN | apply below_drew1) | exact HB.out)⟩⟩
  case round =>
    clear H'
    obtain ⟨x0_1, x3_1, rfl, HA, HK1, HO_3, HB⟩ := hrel
    cases gk with
    | zero => exact absurd HA.out (by simp [num_length.l0])
    | succ k1 =>
      have H := HA.out
      clear HA
      simp only [num_length.l0] at H
      by_cases c2 : x0_1 ≥ 128
      · rw [if_pos c2] at H
        have c2b0 : decide (128 ≤ x0_1) = true := decide_eq_true c2
        clear c2
        by_cases c3 : x3_1.length < 140737488355328
        · rw [if_pos c3] at H
          have LMc3 := Aside0.mk c3
          clear c3
          obtain ⟨y110, hy110⟩ : ∃ y_ : List Int, y_ = (x3_1 ++ [(((Int.tmod x0_1 128) % 256) + 128) % 256]) := ⟨_, rfl⟩
          replace H : (num_length.l0 k1 (wrap64 (Int.tdiv x0_1 128)) y110) = some r := by first | (rw [hy110]; with_reducible exact H) | (have H2_ := (Option.bind_some _ _).symm.trans H; rw [hy110]; with_reducible exact H2_) | (have H2_ := (Option.bind_some _ _).symm.trans H; with_reducible exact H2_) | with_reducible exact H | (rw [hy110]; exact H) | exact H
          have Ny110 := Aside0.mk hy110
          clear hy110
          have H' := Aside0.mk H
          clear H
          go_wp2_with (first | ((with_reducible refine gate_builtin (b := .append) (xs := #[.tmp 6, .tmp 11]) rfl ?_); at_builtin; refine Kd.R_append (Kd.int .u8) (w0 := w) w.heap.size rfl (.tmp 6) (.tmp 11) 90 5 (.int .u8 0) 1 rfl Try.underlying90 info5 rfl (by decide) (by omega) u3 x3_1 ((((Int.tmod x0_1 128) % 256) + 128) % 256) [.int .u8 ((Int.tmod x0_1 128 + 128) % 256)] (fun _ => True) (fun _ => False) rfl rfl ?aP (fun _ hk => hk.elim) ?aF ?aO ?aB ?aS ?aL ?_; (case aP => exact (show ([.int .u8 ((Int.tmod x0_1 128 + 128) % 256)] : List Value) = [.int .u8 ((((Int.tmod x0_1 128) % 256) + 128) % 256)] by rw [Int.emod_add_emod])); (case aB => exact (by repeat (first | (with_reducible first | exact HB.out | apply below_alloc | apply pw_below_drewN | apply below_drew1) | exact HB.out))); (case aF => exact (fun _ _ => trivial)); (case aO => exact (by (with_reducible repeat (first | apply Kd.R_alloc | apply Kd.R_drewN | apply Kd.R_drew)); exact HO_3.out)); (case aS => exact (below_size (by repeat (first | (with_reducible first | exact HB.out | apply below_alloc | apply pw_below_drewN | apply below_drew1) | exact HB.out)))); (case aL => have := LMc3.out; omega); intro v111 w4 ho hb hg hat; rw [← Ny110.out] at ho; have n0_ := Aside0.mk (hb); have n1_ := Aside0.mk (ho); clear HB; clear HO_3; have HB := n0_; have HO112 := n1_; clear n0_ n1_; clear ho hb hg hat))
          go_roundg k1
          case measure => have := HK1.out; omega
          case rel => exact ⟨(wrap64 (Int.tdiv x0_1 128)), (y110), (by first | rfl | (simp; done) | (simp [*]; done)), H', ⟨by have := HK1.out; omega⟩, ⟨by (with_reducible repeat (first | apply Kd.R_alloc | apply Kd.R_drewN | apply Kd.R_drew)); exact HO112.out⟩, ⟨by repeat (first | (with_reducible first | exact HB.out | apply below_alloc | apply pw_below_drewN | apply below_drew1) | exact HB.out)⟩⟩
        · rw [if_neg c3] at H
          exact absurd H (by simp)
      · rw [if_neg c2] at H
        have c2b0 : decide (128 ≤ x0_1) = false := decide_eq_false c2
        clear c2
        by_cases c5 : x3_1.length < 140737488355328
        · rw [if_pos c5] at H
          have LMc5 := Aside0.mk c5
          clear c5
          obtain ⟨y113, hy113⟩ : ∃ y_ : List Int, y_ = (x3_1 ++ [(x0_1) % 256]) := ⟨_, rfl⟩
          replace H : (some y113) = some r := by first | (rw [hy113]; with_reducible exact H) | (have H2_ := (Option.bind_some _ _).symm.trans H; rw [hy113]; with_reducible exact H2_) | (have H2_ := (Option.bind_some _ _).symm.trans H; with_reducible exact H2_) | with_reducible exact H | (rw [hy113]; exact H) | exact H
          have Ny113 := Aside0.mk hy113
          clear hy113
          obtain rfl := Option.some.inj H
          go_wp2_with (first | ((with_reducible refine gate_builtin (b := .append) (xs := #[.tmp 15, .tmp 18]) rfl ?_); at_builtin; refine Kd.R_append (Kd.int .u8) (w0 := w) w.heap.size rfl (.tmp 15) (.tmp 18) 90 5 (.int .u8 0) 1 rfl Try.underlying90 info5 rfl (by decide) (by omega) u3 x3_1 ((x0_1) % 256) [.int .u8 ((x0_1) % 256)] (fun _ => True) (fun _ => False) rfl rfl ?aP (fun _ hk => hk.elim) ?aF ?aO ?aB ?aS ?aL ?_; (case aP => exact rfl); (case aB => exact (by repeat (first | (with_reducible first | exact HB.out | apply below_alloc | apply pw_below_drewN | apply below_drew1) | exact HB.out))); (case aF => exact (fun _ _ => trivial)); (case aO => exact (by (with_reducible repeat (first | apply Kd.R_alloc | apply Kd.R_drewN | apply Kd.R_drew)); exact HO_3.out)); (case aS => exact (below_size (by repeat (first | (with_reducible first | exact HB.out | apply below_alloc | apply pw_below_drewN | apply below_drew1) | exact HB.out)))); (case aL => have := LMc5.out; omega); intro v114 w6 ho hb hg hat; rw [← Ny113.out] at ho; have n0_ := Aside0.mk (hb); have n1_ := Aside0.mk (ho); clear HB; clear HO_3; have HB := n0_; have HO115 := n1_; clear n0_ n1_; clear ho hb hg hat))
          go_ret
          exact ⟨_, by first | rfl | (simp [errW_none, errW_some] <;> rfl) | (simp [*, errW_none, errW_some] <;> rfl), by (with_reducible repeat (first | apply Kd.R_alloc | apply Kd.R_drewN | apply Kd.R_drew)); exact HO115.out, by repeat (first | (with_reducible first | exact HB.out | apply below_alloc | apply pw_below_drewN | apply below_drew1) | exact HB.out)⟩
        · rw [if_neg c5] at H
          exact absurd H (by simp)

end
/-- A length's bytes. -/
def lenB (n : Nat) : List UInt8 := if 128 ≤ n then UInt8.ofNat (n % 128 + 128) :: lenB (n / 128) else [UInt8.ofNat n]
/-- A row of texts as bytes. -/
def rowB : List ByteArray → List UInt8
  | [] => []
  | s :: l => lenB s.size ++ s.data.toList ++ rowB l
def ints (l : List UInt8) : List Int := l.map fun b => (b.toNat : Int)
theorem rowB_append (a b : List ByteArray) : rowB (a ++ b) = rowB a ++ rowB b := by
  induction a with
  | nil => rfl
  | cons s l ih => simp [rowB, ih]
theorem len_fuel : ∀ (k n : Nat) (acc : List Int), n < k → n ≤ 140737488355328 → acc.length + (lenB n).length ≤ 140737488355328 → num_length.l0 k n acc = some (acc ++ ints (lenB n)) := by
  intro k
  induction k with
  | zero => intro n acc h; omega
  | succ k ih =>
    intro n acc h hn hl
    rw [num_length.l0]
    by_cases c : 128 ≤ n
    · rw [lenB, if_pos c, List.length_cons] at hl
      rw [if_pos (show (n : Int) ≥ 128 by omega), if_pos (by omega)]
      have e1 : wrap64 (Int.tdiv (n : Int) 128) = ((n / 128 : Nat) : Int) := by
        rw [Int.tdiv_eq_ediv_of_nonneg (by omega)]
        rw [← i64_w, IntWalk.i64_in _ (by omega)]
        omega
      rw [e1, ih (n / 128) _ (by omega) (by omega) (by rw [List.length_append, List.length_singleton]; omega)]
      rw [lenB.eq_def n, if_pos c]
      have e2 : ((Int.tmod (n : Int) 128) % 256 + 128) % 256 = ((UInt8.ofNat (n % 128 + 128)).toNat : Int) := by
        rw [Int.tmod_eq_emod_of_nonneg (by omega), UInt8.toNat_ofNat']
        omega
      rw [e2]
      simp [ints]
    · rw [lenB, if_neg c, List.length_singleton] at hl
      rw [if_neg (show ¬ (n : Int) ≥ 128 by omega), if_pos (by omega), lenB, if_neg c]
      have e2 : (n : Int) % 256 = ((UInt8.ofNat n).toNat : Int) := by
        rw [UInt8.toNat_ofNat']
        omega
      rw [e2]
      simp [ints]
theorem lenB_ne (n : Nat) : lenB n ≠ [] := by
  rw [lenB]
  split <;> simp
theorem length_calls (n : Nat) (w : World) (hn : n ≤ 140737488355328) (hl : (lenB n).length ≤ 140737488355328) :
    Calls Try.prog 64 #[.int .i64 (n : Int)] w fun e w' => ∃ g c, e = .returned (.slice (some ⟨g, 0, none⟩) (Lib.byteCells (lenB n)).length c) ∧ (∀ j u, (Lib.byteCells (lenB n))[j]? = some u → w'.cell? ⟨g, j, none⟩ = some u) ∧ w.heap.size ≤ g ∧ Below w.heap.size w w' := by
  refine (num_length.calls (n + 1) n (ints (lenB n)) w (by unfold num_length.f; rw [len_fuel (n + 1) n [] (by omega) hn (by simpa using hl)]; simp)).mono ?_
  rintro e w' ⟨v, rfl, hR, hb⟩
  have ho := Kd.own_of_R hR
  have e1 : encs (Value.int .u8) (ints (lenB n)) = Lib.byteCells (lenB n) := by simp [encs, ints, Lib.byteCells]
  rw [e1] at ho
  have hl0 : (ints (lenB n)).length = (Lib.byteCells (lenB n)).length := by simp [ints, Lib.byteCells]
  rcases ho.2 with ⟨_, h0⟩ | ⟨g, cap, cur, hv, hg, r⟩
  · exact absurd h0 (by simp [ints, lenB_ne])
  · subst hv
    refine ⟨g, cap, by rw [hl0], fun j u hj => ?_, hg, hb⟩
    have z := ho.cells (g := g) rfl j u hj
    have : (⟨g, 0, none⟩ : Addr).add j = ⟨g, j, none⟩ := by unfold Addr.add; split <;> simp_all
    rwa [this] at z
theorem builder_below {T e : TypeId} {B b : Nat} {bs : List Value} {w w' : World} (h : Lib.IsBuilder T e B b bs w) (hb : Below w.heap.size w w') : Lib.IsBuilder T e B b bs w' := by
  have k : ∀ p, Lib.BuilderAt T e B b p bs w → Lib.BuilderAt T e B b p bs w' := by
    rintro p ⟨hB, v, hbk, hown, hne⟩
    have hlt : b < w.heap.size := Lib.BuilderAt.lt ⟨hB, v, hbk, hown, hne⟩
    refine ⟨hB, v, (hb.block b hlt).trans hbk, ?_, hne⟩
    by_cases c : v.ownBlock = none
    · exact hown.kept (row := none) ⟨hb.os, hb.tape, hb.output, hb.size, fun k hk _ => hb.block k hk⟩ (Or.inl c)
    · exact hown.kept (row := none) ⟨hb.os, hb.tape, hb.output, hb.size, fun k hk _ => hb.block k hk⟩ (Or.inr c)
  rcases h with h | h
  · exact Or.inl (k _ h)
  · exact Or.inr (k _ h)
theorem byteCells_one (l : List UInt8) : ∀ u ∈ Lib.byteCells l, u.oneCell' = true := by
  intro u hu
  simp only [Lib.byteCells, List.mem_map] at hu
  obtain ⟨x, _, rfl⟩ := hu
  rfl
theorem builder_lt {T e : TypeId} {B b : Nat} {bs : List Value} {w : World} (h : Lib.IsBuilder T e B b bs w) : b < w.heap.size := by
  rcases h with h | h <;> exact h.lt
theorem byteCells_append (a b : List UInt8) : Lib.byteCells (a ++ b) = Lib.byteCells a ++ Lib.byteCells b := by simp [Lib.byteCells]

set_option maxRecDepth 100000 in
set_option maxHeartbeats 8000000 in
theorem rowOf_calls (A0 : Option Addr) (c0 : Nat) (l0 : List ByteArray) (w : World) (hr0 : Kd.C Kd.string w A0 l0.length l0) (_hc0 : l0.length ≤ c0) (hL : (rowB l0).length ≤ 140737488355328) :
    Calls Try.prog 50 #[.slice A0 l0.length c0] w fun e w' => e = .returned (.string ⟨(rowB l0).toArray⟩) ∧ Below w.heap.size w w' := by
  have HR := Aside0.mk hr0
  clear hr0
  have mx := Kd.C_max HR.out
  have I0 := Aside0.mk (Lib.fresh_isBuilder 92 5 w)
  have W0 := Aside0.mk ((Below.refl w.heap.size w).alloc (Nat.le_refl _) (.cells #[.pointer none, .slice none 0 0] 92))
  go_enter Try.func50, Try.ntmps50
  go_wp2
  go_loopg [8] l0.length (fun gk v8 wr => ∃ i : Nat, v8 = .int .i64 i ∧ Aside0 (i + gk = l0.length) ∧ Aside0 (Lib.IsBuilder 92 5 w.heap.size w.heap.size (Lib.byteCells (rowB (l0.take i))) wr) ∧ Aside0 (Below w.heap.size w wr))
  case atStart => exact ⟨0, rfl, ⟨by omega⟩, I0, W0⟩
  case round =>
    clear I0 W0
    obtain ⟨i, rfl, hi, IB, WB⟩ := hrel
    by_cases hlt : i < l0.length
    · have b1 := eq_true (show (i : Int) < (l0.length : Int) by omega)
      have b2 := eq_true (show (0 : Int) ≤ (i : Int) by omega)
      obtain ⟨ad, eA, hx⟩ := Kd.at_string (Kd.C_below HR.out WB.out) (i : Int) (by omega) (by omega)
      cases eA
      obtain ⟨s, hs⟩ : ∃ s, s = l0[i] := ⟨_, rfl⟩
      have e0 : rdOf ByteArray.empty l0 (i : Int) = s := by simp [rdOf, hs, hlt]
      rw [e0] at hx
      have et : rowB (l0.take (i + 1)) = rowB (l0.take i) ++ lenB s.size ++ s.data.toList := by
        rw [List.take_add_one, rowB_append, List.getElem?_eq_getElem hlt, ← hs]
        simp [rowB]
      have el : (rowB (l0.take i)).length + (lenB s.size).length + s.size ≤ 140737488355328 := by
        have e3 := congrArg List.length (rowB_append (l0.take (i + 1)) (l0.drop (i + 1)))
        rw [List.take_append_drop, et] at e3
        simp only [List.length_append, Array.length_toList] at e3
        have : s.data.size = s.size := rfl
        omega
      rw [Int.toNat_natCast] at hx
      have ET := Aside0.mk et
      clear et e0 hs
      have EL := Aside0.mk el
      clear el
      have LC := Aside0.mk (length_calls s.size wr (by have := EL.out; omega) (by have := EL.out; omega))
      go_wp2_with ((with_reducible refine LC.out.mono ?_); rintro e w1 ⟨g, c, rfl, hcs, hg, hb⟩; have B1 := Aside0.mk (builder_below IB.out hb); have W1 := Aside0.mk (below_then WB.out WB.out.size hb); have C1 := Aside0.mk hcs; have G1 := Aside0.mk hg; clear hcs hg hb)
      go_wp2_with ((with_reducible refine (write_calls w.heap.size w.heap.size (Lib.byteCells (rowB (l0.take i))) g c (Lib.byteCells (lenB s.size)) _ B1.out (by rw [Lib.byteCells_length, Lib.byteCells_length]; have := EL.out; omega) W1.out.size C1.out (byteCells_one _) (by have := G1.out; have := IB.out; have := builder_lt IB.out; omega)).mono ?_); rintro e w2 ⟨rfl, h2, hb⟩; have B2 := Aside0.mk (show Lib.IsBuilder 92 5 w.heap.size w.heap.size (Lib.byteCells (rowB (l0.take i)) ++ Lib.byteCells (lenB s.size)) w2 from Or.inr h2); have W2 := Aside0.mk (W1.out.trans hb); clear h2 hb)
      go_wp2_with ((with_reducible refine (writeString_calls w.heap.size w.heap.size (Lib.byteCells (rowB (l0.take i)) ++ Lib.byteCells (lenB s.size)) s _ B2.out (by rw [List.length_append, Lib.byteCells_length, Lib.byteCells_length]; have := EL.out; omega) W2.out.size).mono ?_); rintro e w3 ⟨rfl, h3, hb⟩; have B3 := Aside0.mk h3; have W3 := Aside0.mk (W2.out.trans hb); clear h3 hb)
      go_wp2_with fail
      go_roundg (l0.length - i - 1)
      case measure => have := hi.out; omega
      case rel =>
        refine ⟨i + 1, by go_num, ⟨by have := hi.out; omega⟩, ⟨Or.inr ?_⟩, W3⟩
        rw [ET.out, byteCells_append, byteCells_append, show Lib.byteCells s.data.toList = Lib.strCells s from rfl]
        exact B3.out
    · obtain rfl : i = l0.length := by have := hi.out; omega
      have b1 := eq_false (show ¬ (l0.length : Int) < (l0.length : Int) by omega)
      have IB := IB.out
      rw [List.take_length] at IB
      go_wp2_with ((with_reducible refine (Try.Builder_String_any w.heap.size w.heap.size (rowB l0) _ IB WB.out.size).mono ?_); rintro e w4 ⟨rfl, hb⟩; have W4 := Aside0.mk (WB.out.trans hb); clear hb)
      go_wp2_with fail
      go_ret
      exact ⟨rfl, W4.out⟩
end Go.Proofs.Ytoljjgabgdifbaa.H


namespace Go.Proofs.Ytoljjgabgdifbaa.H
open Go.RowKit Go.Proofs.YtoljjgabgdifbaaW.PrintWords Go.Proofs.YtoljjgabgdifbaaW.PrintLast Go.Proofs.YtoljjgabgdifbaaW.PrintMore
set_option linter.unusedVariables false
set_option linter.unusedSimpArgs false

theorem strings_at {w : World} {g : Nat} {t : TypeId} {xs : List ByteArray} (h : Blk w g t (xs.map Value.string).toArray) (hl : xs.length ≤ 9223372036854775807) : Kd.C Kd.string w (some ⟨g, 0, none⟩) xs.length xs := by
  refine Kd.C_of_reads (d := ByteArray.empty) ⟨rfl, hl, fun _ => ⟨_, rfl, fun j hj => ?_⟩⟩
  rw [add_plain, h.cell]
  simp [List.getElem?_eq_getElem hj, List.getD_eq_getElem?_getD]
theorem strings_new (w : World) (xs : List ByteArray) (hl : xs.length ≤ 9223372036854775807) : Kd.C Kd.string (w.alloc (.cells (xs.map Value.string).toArray 9)) (some ⟨w.heap.size, 0, none⟩) xs.length xs :=
  strings_at (Blk.new w 9 _) hl
def hibi : ByteArray := ⟨#[104, 105, 98, 105]⟩
/-- An image as bytes. -/
def imageL (f0 f1 : List ByteArray) (s : ByteArray) : List UInt8 := rowB [hibi, ⟨(rowB f0).toArray⟩, ⟨(rowB f1).toArray⟩, s]
theorem imageL_len (f0 f1 : List ByteArray) (s : ByteArray) : (rowB f0).length + (rowB f1).length + s.size ≤ (imageL f0 f1 s).length := by
  have e : ∀ l : List UInt8, (ByteArray.mk l.toArray).data.toList = l := fun l => rfl
  simp only [imageL, rowB, e, List.length_append, Array.length_toList, List.length_nil]
  have : s.data.size = s.size := rfl
  omega

set_option maxRecDepth 100000 in
set_option maxHeartbeats 8000000 in
theorem imageBytes_calls (A0 : Option Addr) (c0 : Nat) (f0 : List ByteArray) (A1 : Option Addr) (c1 : Nat) (f1 : List ByteArray) (s : ByteArray) (w : World) (h0 : Kd.C Kd.string w A0 f0.length f0) (l0 : f0.length ≤ c0) (h1 : Kd.C Kd.string w A1 f1.length f1) (l1 : f1.length ≤ c1)
    (hL : (imageL f0 f1 s).length ≤ 140737488355328) :
    Calls Try.prog 37 #[.agg #[.slice A0 f0.length c0, .slice A1 f1.length c1, .string s]] w fun e w' => e = .returned (.string ⟨(imageL f0 f1 s).toArray⟩) ∧ Below w.heap.size w w' := by
  have hl := imageL_len f0 f1 s
  have hL2 : (rowB [hibi, ⟨(rowB f0).toArray⟩, ⟨(rowB f1).toArray⟩, s]).length ≤ 140737488355328 := hL
  have B0 := Aside0.mk (Blk.new w 24 #[.slice A0 f0.length c0, .slice A1 f1.length c1, .string s])
  have W0 := Aside0.mk ((Below.refl w.heap.size w).alloc (Nat.le_refl _) (.cells #[.slice A0 f0.length c0, .slice A1 f1.length c1, .string s] 24))
  go_enter Try.func37, Try.ntmps37
  go_wp2_with fail
  generalize w.alloc (.cells #[.slice A0 f0.length c0, .slice A1 f1.length c1, .string s] 24) = w0 at B0 W0 ⊢
  have B1 := Aside0.mk B0.out.drew
  have W1 := Aside0.mk (below_drew W0.out)
  refine start_ (n := 11) (S := fun w' => w'.cell? ⟨w.heap.size, 0, none⟩ = some (.slice A0 f0.length c0) ∧ w'.cell? ⟨w.heap.size, 1, none⟩ = some (.slice A1 f1.length c1) ∧ w'.cell? ⟨w.heap.size, 2, none⟩ = some (.string s)) (ds := []) #[false, false, false, false, false, false, false, false, false, false, false] (by kernel_rfl) rfl rfl ⟨(B0.out.drew.cell 0), (B0.out.drew.cell 1), (B0.out.drew.cell 2)⟩ (fun hHeld => ?_)
  refine pure_ (i := 0) (N := some 3) (v := ?_) (a' := ?_) #[true, false, false, false, false, false, false, false, false, false, false] rfl rfl (by kernel_rfl) (fun _ _ _ h => h) (Or.inl ⟨by rfl, ?_⟩) ?_ ?_
  rotate_left
  · intro w'
    go_simp
    with_reducible rfl
  rotate_left
  · simp only [Act.put, List.setIfInBounds_toArray, List.set_cons_zero, List.set_cons_succ, i64_w, i32_w]
    rfl
  refine pure_ (i := 3) (N := some 6) (v := ?_) (a' := ?_) #[true, false, false, true, false, false, false, false, false, false, false] rfl rfl (by kernel_rfl) (fun _ _ _ h => h) (Or.inl ⟨by rfl, ?_⟩) ?_ ?_
  rotate_left
  · intro w'
    go_simp
    with_reducible rfl
  rotate_left
  · simp only [Act.put, List.setIfInBounds_toArray, List.set_cons_zero, List.set_cons_succ, i64_w, i32_w]
    rfl
  refine pure_ (i := 6) (N := some 9) (v := ?_) (a' := ?_) #[true, false, false, true, false, false, true, false, false, false, false] rfl rfl (by kernel_rfl) (fun _ _ _ h => h) (Or.inl ⟨by rfl, ?_⟩) ?_ ?_
  rotate_left
  · intro w'
    go_simp
    with_reducible rfl
  rotate_left
  · simp only [Act.put, List.setIfInBounds_toArray, List.set_cons_zero, List.set_cons_succ, i64_w, i32_w]
    rfl
  refine take_ (i := 1) (N := some 4) (v := ?_) (a' := ?_) #[true, true, false, true, false, false, true, false, false, false, false] rfl rfl (by kernel_rfl) (fun _ _ _ h => h) (Or.inl ⟨by rfl, ?_⟩) hHeld ?_ ?_
  rotate_left
  · rintro w' ⟨s0, s1, s2⟩
    go_simp
    with_reducible rfl
  rotate_left
  · simp only [Act.put, List.setIfInBounds_toArray, List.set_cons_zero, List.set_cons_succ, i64_w, i32_w]
    rfl
  refine take_ (i := 4) (N := some 7) (v := ?_) (a' := ?_) #[true, true, false, true, true, false, true, false, false, false, false] rfl rfl (by kernel_rfl) (fun _ _ _ h => h) (Or.inl ⟨by rfl, ?_⟩) hHeld ?_ ?_
  rotate_left
  · rintro w' ⟨s0, s1, s2⟩
    go_simp
    with_reducible rfl
  rotate_left
  · simp only [Act.put, List.setIfInBounds_toArray, List.set_cons_zero, List.set_cons_succ, i64_w, i32_w]
    rfl
  refine take_ (i := 7) (N := some 10) (v := ?_) (a' := ?_) #[true, true, false, true, true, false, true, true, false, false, false] rfl rfl (by kernel_rfl) (fun _ _ _ h => h) (Or.inl ⟨by rfl, ?_⟩) hHeld ?_ ?_
  rotate_left
  · rintro w' ⟨s0, s1, s2⟩
    go_simp
    with_reducible rfl
  rotate_left
  · simp only [Act.put, List.setIfInBounds_toArray, List.set_cons_zero, List.set_cons_succ, i64_w, i32_w]
    rfl
  refine one_ (i := 2) (N := some 5) #[true, true, true, true, true, false, true, true, false, false, false] rfl rfl (by kernel_rfl) (by decide) (fun K hK => ?_)
  refine goes_ Try.func50 (by kernel_rfl) rfl #[.slice A0 f0.length c0] (by rfl) rfl rfl (by simp only [List.map_toArray, List.map_cons, List.map_nil]; rfl) ?_
  with_reducible refine (rowOf_calls A0 c0 f0 _ (Kd.C_below h0 W1.out) l0 (by omega)).mono ?_
  rintro e w3 ⟨rfl, hb⟩
  refine ⟨_, rfl, ?_⟩
  have B2 := Aside0.mk (B1.out.below hb B1.out.lt)
  have W2 := Aside0.mk (below_then W1.out W1.out.size hb)
  clear hb
  refine hK.out _ _ ⟨(B2.out.cell 0), (B2.out.cell 1), (B2.out.cell 2)⟩ (fun hHeld => ?_)
  clear hK K
  refine norm_ (a' := ?_) ?_ ?_
  rotate_left
  · show Act.put _ (some 5) _ = _
    simp only [Act.put, List.setIfInBounds_toArray, List.set_cons_zero, List.set_cons_succ, i64_w, i32_w]
    rfl
  refine one_ (i := 5) (N := some 8) #[true, true, true, true, true, true, true, true, false, false, false] rfl rfl (by kernel_rfl) (by decide) (fun K hK => ?_)
  refine goes_ Try.func50 (by kernel_rfl) rfl #[.slice A1 f1.length c1] (by rfl) rfl rfl (by simp only [List.map_toArray, List.map_cons, List.map_nil]; rfl) ?_
  with_reducible refine (rowOf_calls A1 c1 f1 _ (Kd.C_below h1 W2.out) l1 (by omega)).mono ?_
  rintro e w4 ⟨rfl, hb⟩
  refine ⟨_, rfl, ?_⟩
  have B3 := Aside0.mk (B2.out.below hb B2.out.lt)
  have W3 := Aside0.mk (below_then W2.out W2.out.size hb)
  clear hb
  refine hK.out _ _ ⟨(B3.out.cell 0), (B3.out.cell 1), (B3.out.cell 2)⟩ (fun hHeld => ?_)
  clear hK K
  refine norm_ (a' := ?_) ?_ ?_
  rotate_left
  · show Act.put _ (some 8) _ = _
    simp only [Act.put, List.setIfInBounds_toArray, List.set_cons_zero, List.set_cons_succ, i64_w, i32_w]
    rfl
  refine one_ (i := 8) (N := some 11) #[true, true, true, true, true, true, true, true, true, false, false] rfl rfl (by kernel_rfl) (by decide) (fun K hK => ?_)
  refine value_ (w1 := ?_) (v := ?_) (by rfl) rfl ?_ ?_
  rotate_left 2
  · go_simp
    constructor
    · rfl
    · rfl
  have B4 := Aside0.mk (B3.out.alloc (.cells (List.map Value.string [hibi, ⟨(rowB f0).toArray⟩, ⟨(rowB f1).toArray⟩, s]).toArray 9))
  have W4 := Aside0.mk (W3.out.alloc (by have := W3.out.size; omega) (.cells (List.map Value.string [hibi, ⟨(rowB f0).toArray⟩, ⟨(rowB f1).toArray⟩, s]).toArray 9))
  refine hK.out _ _ ⟨(B4.out.cell 0), (B4.out.cell 1), (B4.out.cell 2)⟩ (fun hHeld => ?_)
  clear hK K
  refine norm_ (a' := ?_) ?_ ?_
  rotate_left
  · show Act.put _ (some 11) _ = _
    simp only [Act.put, List.setIfInBounds_toArray, List.set_cons_zero, List.set_cons_succ, i64_w, i32_w]
    rfl
  refine one_ (i := 9) (N := some 12) #[true, true, true, true, true, true, true, true, true, true, false] rfl rfl (by kernel_rfl) (by decide) (fun K hK => ?_)
  refine goes_ Try.func50 (by kernel_rfl) rfl #[.slice (some ⟨w4.heap.size, 0, none⟩) [hibi, ⟨(rowB f0).toArray⟩, ⟨(rowB f1).toArray⟩, s].length 4] (by rfl) rfl rfl (by simp only [List.map_toArray, List.map_cons, List.map_nil]; rfl) ?_
  refine (rowOf_calls (some ⟨w4.heap.size, 0, none⟩) 4 [hibi, ⟨(rowB f0).toArray⟩, ⟨(rowB f1).toArray⟩, s] _ (strings_new w4 [hibi, ⟨(rowB f0).toArray⟩, ⟨(rowB f1).toArray⟩, s] (by simp)) (by simp) hL2).mono ?_
  rintro e w5 ⟨rfl, hb⟩
  refine ⟨_, rfl, ?_⟩
  have B5 := Aside0.mk (B4.out.below hb B4.out.lt)
  have W5 := Aside0.mk (below_then W4.out W4.out.size hb)
  clear hb
  refine hK.out _ _ ⟨(B5.out.cell 0), (B5.out.cell 1), (B5.out.cell 2)⟩ (fun hHeld => ?_)
  clear hK K
  refine norm_ (a' := ?_) ?_ ?_
  rotate_left
  · show Act.put _ (some 12) _ = _
    simp only [Act.put, List.setIfInBounds_toArray, List.set_cons_zero, List.set_cons_succ, i64_w, i32_w]
    rfl
  refine pure_ (i := 10) (N := some 2) (v := ?_) (a' := ?_) #[true, true, true, true, true, true, true, true, true, true, true] rfl rfl (by kernel_rfl) (fun _ _ _ h => h) (Or.inl ⟨by rfl, ?_⟩) ?_ ?_
  rotate_left
  · intro w'
    go_simp
    with_reducible rfl
  rotate_left
  · simp only [Act.put, List.setIfInBounds_toArray, List.set_cons_zero, List.set_cons_succ, i64_w, i32_w]
    rfl
  refine done_ (by kernel_rfl) ?_

  clear hHeld
  go_wp2_with fail
  go_ret
  exact ⟨rfl, W5.out⟩

/-- The digest of an image. -/
def imgSum (f0 f1 : List ByteArray) (s : ByteArray) : List Int := sumL ⟨(imageL f0 f1 s).toArray⟩
theorem imgSum_len (f0 f1 : List ByteArray) (s : ByteArray) : (imgSum f0 f1 s).length = 32 := sumL_len _

set_option maxRecDepth 100000 in
set_option maxHeartbeats 8000000 in
theorem imageSum_calls (A0 : Option Addr) (c0 : Nat) (f0 : List ByteArray) (A1 : Option Addr) (c1 : Nat) (f1 : List ByteArray) (s : ByteArray) (w : World) (h0 : Kd.C Kd.string w A0 f0.length f0) (l0 : f0.length ≤ c0) (h1 : Kd.C Kd.string w A1 f1.length f1) (l1 : f1.length ≤ c1)
    (hL : (imageL f0 f1 s).length ≤ 140737488355328) :
    Calls Try.prog 23 #[.agg #[.slice A0 f0.length c0, .slice A1 f1.length c1, .string s]] w fun e w' => e = .returned (.agg (nums .u8 (imgSum f0 f1 s)).toArray) ∧ Below w.heap.size w w' := by
  have B0 := Blk.new w 24 #[.slice A0 f0.length c0, .slice A1 f1.length c1, .string s]
  have W0 := (Below.refl w.heap.size w).alloc (Nat.le_refl _) (.cells #[.slice A0 f0.length c0, .slice A1 f1.length c1, .string s] 24)
  have D0 := Blk.new (w.alloc (.cells #[.slice A0 f0.length c0, .slice A1 f1.length c1, .string s] 24)) 29 (nums .u8 (outL [] 0)).toArray
  have B0 := Aside0.mk (B0.alloc (.cells (nums .u8 (outL [] 0)).toArray 29))
  have W0 := Aside0.mk (W0.alloc (by rw [sz]; omega) (.cells (nums .u8 (outL [] 0)).toArray 29))
  rw [sz] at D0
  have D0 := Aside0.mk D0
  generalize hw0 : (w.alloc (.cells #[.slice A0 f0.length c0, .slice A1 f1.length c1, .string s] 24)).alloc (.cells (nums .u8 (outL [] 0)).toArray 29) = w0 at B0 W0 D0
  have HW0 := Aside0.mk hw0
  clear hw0
  go_enter Try.func23, Try.ntmps23
  go_wp2_with (rw [show ((w.alloc (.cells #[.slice A0 f0.length c0, .slice A1 f1.length c1, .string s] 24)).alloc (.cells #[.int .u8 0, .int .u8 0, .int .u8 0, .int .u8 0, .int .u8 0, .int .u8 0, .int .u8 0, .int .u8 0, .int .u8 0, .int .u8 0, .int .u8 0, .int .u8 0, .int .u8 0, .int .u8 0, .int .u8 0, .int .u8 0, .int .u8 0, .int .u8 0, .int .u8 0, .int .u8 0, .int .u8 0, .int .u8 0, .int .u8 0, .int .u8 0, .int .u8 0, .int .u8 0, .int .u8 0, .int .u8 0, .int .u8 0, .int .u8 0, .int .u8 0, .int .u8 0] 29)) = w0 from HW0.out]; (refine wpList_load_row rfl 24 (.tmp 1) rfl w.heap.size rfl 24 _ (0, 0) _ B0.out Try.underlying24 rfl (by kernel_rfl) ?_))
  go_wp2_with ((with_reducible refine (imageBytes_calls A0 c0 f0 A1 c1 f1 s w0 (Kd.C_below h0 W0.out) l0 (Kd.C_below h1 W0.out) l1 hL).mono ?_); rintro e w1 ⟨rfl, hb⟩; have W1 := Aside0.mk (below_then W0.out W0.out.size hb); have D1 := Aside0.mk (D0.out.below hb D0.out.lt); clear hb)
  have W2 := W1.out.alloc (by have := W1.out.size; omega) (.cells #[.string ⟨(imageL f0 f1 s).toArray⟩] 9)
  have D2 := D1.out.alloc (.cells #[.string ⟨(imageL f0 f1 s).toArray⟩] 9)
  have S2 := (Blk.new w1 9 #[.string ⟨(imageL f0 f1 s).toArray⟩])
  generalize w1.alloc (.cells #[.string ⟨(imageL f0 f1 s).toArray⟩] 9) = w2 at W2 D2 S2 ⊢
  generalize w1.heap.size = g at S2 ⊢
  have S2l := S2.lt
  have W2 := Aside0.mk W2
  have D2 := Aside0.mk D2
  have S2 : Aside0 (w2.cell? ⟨g, 0, none⟩ = some (.string ⟨(imageL f0 f1 s).toArray⟩)) := ⟨S2.cell 0⟩
  have hL3 : (ByteArray.mk (imageL f0 f1 s).toArray).size ≤ 140737488355328 := by show (imageL f0 f1 s).toArray.size ≤ _; rw [List.size_toArray]; exact hL
  go_wp2_with (first | ((with_reducible refine (sum_calls g 0 1 ⟨(imageL f0 f1 s).toArray⟩ w2 S2.out S2l hL3 (Nat.le_refl _)).mono ?_); rintro e w3 ⟨rfl, hb⟩; have W3 := Aside0.mk (below_then W2.out W2.out.size hb); have D3 := Aside0.mk (D2.out.below hb D2.out.lt); clear hb) | (refine wpList_store_row rfl 29 (.tmp 2) (.tmp 6) rfl (w.heap.size + 1) _ rfl rfl 29 _ D3.out (by rw [List.size_toArray, nums_length, sumL_len]; kernel_rfl) (by rw [List.size_toArray, nums_length, outL_len, List.size_toArray, nums_length, sumL_len]) (nums_all8 _) ?_))
  exact bodyPost_ret (results_cell_row (p := 2) (ty := 29) rfl _ _ (w.heap.size + 1) 29 _ (0, 0) _ rfl (D3.out.setRow_ _) Try.underlying29 rfl (by rw [List.size_toArray, nums_length, sumL_len]; kernel_rfl)) rfl ⟨rfl, below_setRow' W3.out (by omega) _⟩
end Go.Proofs.Ytoljjgabgdifbaa.H

