/- Layer 35's statement DeltaJoins: the walk. -/
import Derived.Test.YtoljjgabgdifbaaZjJ5toT3
import Derived.Test.YtoljjgabgdifbaaZjG6toT6
namespace Go.Proofs.Ytoljjgabgdifbaa.H
open Go.RowKit Go.Proofs.YtoljjgabgdifbaaW.PrintWords Go.Proofs.YtoljjgabgdifbaaW.PrintLast Go.Proofs.YtoljjgabgdifbaaW.PrintMore
set_option linter.unusedVariables false
set_option linter.unusedSimpArgs false

theorem DeltaAt.lower {w : World} {base b : Nat} {v : Value} {L : List Int} {r1 r2 : List S36} {s : ByteArray} {M : List Int} (h : DeltaAt w base v L r1 r2 s M) (hb : b ≤ base) : DeltaAt w b v L r1 r2 s M := by
  obtain ⟨A1, c1, A2, c2, e, h1, h2⟩ := h
  exact ⟨A1, c1, A2, c2, e, Kd.R_lower h1 hb, Kd.R_lower h2 hb⟩
/-- How far two deltas are told, in whatever order. -/
structure JX (w0 W : World) (gA gB gC : Nat) (csA csB csC : Array Value) (L : List Int) (r1 r2 : List S36) (s : ByteArray) (M P : List Int) (q1 q2 : List S36) (z : ByteArray) (Q : List Int) (v2 v5 : Option Value) (g6 g7 : Option Nat) : Prop where
  below : Below w0.heap.size w0 W
  boxA : Blk W gA 24 csA
  boxB : Blk W gB 24 csB
  boxC : Blk W gC 24 csC
  lo : gA < w0.heap.size ∧ gB < w0.heap.size ∧ gC < w0.heap.size
  d2 : ∀ v, v2 = some v → DeltaAt W w0.heap.size v L r1 r2 s M
  d5 : ∀ v, v5 = some v → DeltaAt W w0.heap.size v P q1 q2 z Q
  a6 : ∀ k, g6 = some k → Blk W k 32 (dArr (outL [] 0) (.slice none 0 0) (.slice none 0 0) ⟨#[]⟩ (outL [] 0)) ∧ w0.heap.size ≤ k
  a7 : ∀ k, g7 = some k → Blk W k 32 (dArr (outL [] 0) (.slice none 0 0) (.slice none 0 0) ⟨#[]⟩ (outL [] 0)) ∧ w0.heap.size ≤ k
  ne : ∀ j k, g6 = some j → g7 = some k → j ≠ k
section
variable {w0 W W' : World} {gA gB gC : Nat} {csA csB csC : Array Value} {L : List Int} {r1 r2 : List S36} {s : ByteArray} {M P : List Int} {q1 q2 : List S36} {z : ByteArray} {Q : List Int} {v2 v5 : Option Value} {g6 g7 : Option Nat}
theorem JX.on (X : JX w0 W gA gB gC csA csB csC L r1 r2 s M P q1 q2 z Q v2 v5 g6 g7) (hb : Below W.heap.size W W') : JX w0 W' gA gB gC csA csB csC L r1 r2 s M P q1 q2 z Q v2 v5 g6 g7 :=
  ⟨below_then X.below X.below.size hb, X.boxA.below hb X.boxA.lt, X.boxB.below hb X.boxB.lt, X.boxC.below hb X.boxC.lt, X.lo, fun v e => (X.d2 v e).below hb, fun v e => (X.d5 v e).below hb,
    fun k e => ⟨(X.a6 k e).1.below hb (X.a6 k e).1.lt, (X.a6 k e).2⟩, fun k e => ⟨(X.a7 k e).1.below hb (X.a7 k e).1.lt, (X.a7 k e).2⟩, X.ne⟩
theorem JX.set2 (X : JX w0 W gA gB gC csA csB csC L r1 r2 s M P q1 q2 z Q v2 v5 g6 g7) {v : Value} (d : DeltaAt W w0.heap.size v L r1 r2 s M) : JX w0 W gA gB gC csA csB csC L r1 r2 s M P q1 q2 z Q (some v) v5 g6 g7 :=
  ⟨X.below, X.boxA, X.boxB, X.boxC, X.lo, fun u e => by injection e with e; subst e; exact d, X.d5, X.a6, X.a7, X.ne⟩
theorem JX.set5 (X : JX w0 W gA gB gC csA csB csC L r1 r2 s M P q1 q2 z Q v2 v5 g6 g7) {v : Value} (d : DeltaAt W w0.heap.size v P q1 q2 z Q) : JX w0 W gA gB gC csA csB csC L r1 r2 s M P q1 q2 z Q v2 (some v) g6 g7 :=
  ⟨X.below, X.boxA, X.boxB, X.boxC, X.lo, X.d2, fun u e => by injection e with e; subst e; exact d, X.a6, X.a7, X.ne⟩
theorem JX.alloc6 (X : JX w0 W gA gB gC csA csB csC L r1 r2 s M P q1 q2 z Q v2 v5 none g7) : JX w0 (W.alloc (.cells Try.zeroCells32 32)) gA gB gC csA csB csC L r1 r2 s M P q1 q2 z Q v2 v5 (some W.heap.size) g7 := by
  have Y := X.on (below_alloc (Below.refl _ _) (.cells Try.zeroCells32 32))
  refine ⟨Y.below, Y.boxA, Y.boxB, Y.boxC, Y.lo, Y.d2, Y.d5, fun k e => ?_, Y.a7, fun j k e1 e2 => ?_⟩
  · injection e with e
    subst e
    rw [← z32]
    exact ⟨Blk.new _ _ _, X.below.size⟩
  · injection e1 with e1
    subst e1
    have := (X.a7 k e2).1.lt
    omega
theorem JX.alloc7 (X : JX w0 W gA gB gC csA csB csC L r1 r2 s M P q1 q2 z Q v2 v5 g6 none) : JX w0 (W.alloc (.cells Try.zeroCells32 32)) gA gB gC csA csB csC L r1 r2 s M P q1 q2 z Q v2 v5 g6 (some W.heap.size) := by
  have Y := X.on (below_alloc (Below.refl _ _) (.cells Try.zeroCells32 32))
  refine ⟨Y.below, Y.boxA, Y.boxB, Y.boxC, Y.lo, Y.d2, Y.d5, Y.a6, fun k e => ?_, fun j k e1 e2 => ?_⟩
  · injection e with e
    subst e
    rw [← z32]
    exact ⟨Blk.new _ _ _, X.below.size⟩
  · injection e2 with e2
    subst e2
    have := (X.a6 j e1).1.lt
    omega
end
/-- What is joined of a and b and of b and c, may be done on a, and is c then. -/
theorem join_c (a b c : S24) (hma : a.f0.length ≤ 1000 ∧ a.f1.length ≤ 1000) (hmb : b.f0.length ≤ 1000 ∧ b.f1.length ≤ 1000) (hmc : c.f0.length ≤ 1000 ∧ c.f1.length ≤ 1000) (wb : wtI b ≤ 4000) (wc : wtI c ≤ 4000)
    (hNA : iSum noth = iSum a → noth = a) (hNB : iSum noth = iSum b → noth = b) :
    ∃ (y : S24) (J : List Int) (j1 j2 : List S36), Dig J ∧ (imgSum a.f0 a.f1 a.f2 = J ∧ y = a ∨ imgSum a.f0 a.f1 a.f2 ≠ J ∧ emptySum = J ∧ y = ⟨[], [], ⟨#[]⟩⟩) ∧ delta_done.f 17592186044416 y.f0 j1 = some (c.f0, 0) ∧ delta_done.f 17592186044416 y.f1 j2 = some (c.f1, 0) ∧
      ∀ (U1 : Option Addr) (u1 : Nat) (U2 : Option Addr) (u2 : Nat) (V1 : Option Addr) (v1 : Nat) (V2 : Option Addr) (v2 : Nat) (W : World),
        Kd.C k36 W U1 (chg (aOf a b).f0 b.f0 b.f0.length).length (chg (aOf a b).f0 b.f0 b.f0.length) → (chg (aOf a b).f0 b.f0 b.f0.length).length ≤ u1 → Kd.C k36 W U2 (chg (aOf a b).f1 b.f1 b.f1.length).length (chg (aOf a b).f1 b.f1 b.f1.length) → (chg (aOf a b).f1 b.f1 b.f1.length).length ≤ u2 →
        Kd.C k36 W V1 (chg (aOf b c).f0 c.f0 c.f0.length).length (chg (aOf b c).f0 c.f0 c.f0.length) → (chg (aOf b c).f0 c.f0 c.f0.length).length ≤ v1 → Kd.C k36 W V2 (chg (aOf b c).f1 c.f1 c.f1.length).length (chg (aOf b c).f1 c.f1 c.f1.length) → (chg (aOf b c).f1 c.f1 c.f1.length).length ≤ v2 →
        Calls Try.prog 19 #[.agg (dArr (iSum (aOf a b)) (.slice U1 (chg (aOf a b).f0 b.f0 b.f0.length).length u1) (.slice U2 (chg (aOf a b).f1 b.f1 b.f1.length).length u2) b.f2 (iSum b)), .agg (dArr (iSum (aOf b c)) (.slice V1 (chg (aOf b c).f0 c.f0 c.f0.length).length v1) (.slice V2 (chg (aOf b c).f1 c.f1 c.f1.length).length v2) c.f2 (iSum c))] W
          fun e w' => ∃ T1 t1 T2 t2, e = .returned (.tuple #[.agg (dArr J (.slice T1 j1.length t1) (.slice T2 j2.length t2) c.f2 (iSum c)), .int .i64 0]) ∧ Kd.R k36 36 w' W.heap.size (fun _ => True) (.slice T1 j1.length t1) j1 ∧ Kd.R k36 36 w' W.heap.size (fun _ => True) (.slice T2 j2.length t2) j2 ∧ Below W.heap.size W w' := by
  have hdig : ∀ x : S24, Dig (iSum x) := fun x => imgSum_dig x.f0 x.f1 x.f2
  have l1 := chg_len (aOf a b).f0 b.f0 b.f0.length
  have l2 := chg_len (aOf a b).f1 b.f1 b.f1.length
  have l3 := chg_len (aOf b c).f0 c.f0 c.f0.length
  have l4 := chg_len (aOf b c).f1 c.f1 c.f1.length
  have hx : ∀ x y : S24, aOf x y = noth ∨ aOf x y = x ∧ x.f0.length ≤ y.f0.length ∧ x.f1.length ≤ y.f1.length := fun x y => by
    unfold aOf
    split
    · exact Or.inl rfl
    · exact Or.inr ⟨rfl, by omega, by omega⟩
  by_cases hP : iSum (aOf b c) = emptySum
  · have hn : aOf b c = noth := by
      rcases hx b c with h | ⟨h, _⟩
      · exact h
      · rw [h] at hP ⊢
        exact (hNB hP.symm).symm
    refine ⟨noth, iSum (aOf b c), chg (aOf b c).f0 c.f0 c.f0.length, chg (aOf b c).f1 c.f1 c.f1.length, hdig _, ?_, ?_, ?_, ?_⟩
    · rw [hP]
      by_cases h : imgSum a.f0 a.f1 a.f2 = emptySum
      · exact Or.inl ⟨h, hNA h.symm⟩
      · exact Or.inr ⟨h, rfl, rfl⟩
    · rw [hn]; exact done_f [] c.f0 (by simp) (by omega) (by omega)
    · rw [hn]; exact done_f [] c.f1 (by simp) (by omega) (by omega)
    · intro U1 u1 U2 u2 V1 v1 V2 v2 W h1 k1 h2 k2 h3 k3 h4 k4
      exact join_empty (iSum (aOf a b)) (iSum b) (iSum (aOf b c)) (iSum c) (hdig _) (hdig _) (hdig _) (hdig _) U1 u1 _ U2 u2 _ b.f2 V1 v1 _ V2 v2 _ c.f2 W h1 k1 h2 k2 h3 k3 h4 k4 (by omega) (by omega) (by omega) (by omega) hP
  · have hb : aOf b c = b ∧ b.f0.length ≤ c.f0.length ∧ b.f1.length ≤ c.f1.length := by
      rcases hx b c with h | h
      · rw [h] at hP
        exact absurd rfl hP
      · exact h
    obtain ⟨hb, hb0, hb1⟩ := hb
    rw [hb] at l3 l4 hP ⊢
    have hp : (aOf a b).f0.length ≤ b.f0.length ∧ (aOf a b).f1.length ≤ b.f1.length := by
      rcases hx a b with h | ⟨h, h0, h1⟩
      · rw [h]; exact ⟨Nat.zero_le _, Nat.zero_le _⟩
      · rw [h]; exact ⟨h0, h1⟩
    have wb' := wb
    have wc' := wc
    unfold wtI at wb' wc'
    refine ⟨aOf a b, iSum (aOf a b), bothL (chg (aOf a b).f0 b.f0 b.f0.length ++ chg b.f0 c.f0 c.f0.length), bothL (chg (aOf a b).f1 b.f1 b.f1.length ++ chg b.f1 c.f1 c.f1.length), hdig _, ?_, ?_, ?_, ?_⟩
    · rcases hx a b with h | ⟨h, _⟩
      · rw [h]
        by_cases h2 : imgSum a.f0 a.f1 a.f2 = iSum noth
        · exact Or.inl ⟨h2, hNA h2.symm⟩
        · exact Or.inr ⟨h2, rfl, rfl⟩
      · rw [h]
        exact Or.inl ⟨rfl, rfl⟩
    · exact both_f hp.1 hb0 (by omega) (by omega)
    · exact both_f hp.2 hb1 (by omega) (by omega)
    · intro U1 u1 U2 u2 V1 v1 V2 v2 W h1 k1 h2 k2 h3 k3 h4 k4
      exact join_both (iSum (aOf a b)) (iSum b) (iSum b) (iSum c) (hdig _) (hdig _) (hdig _) (hdig _) U1 u1 _ U2 u2 _ b.f2 V1 v1 _ V2 v2 _ c.f2 W h1 k1 h2 k2 h3 k3 h4 k4 (by omega) (by omega) (by omega) (by omega)
        (fun j => (chg_ok (by omega) (by omega) (by omega) (by omega) j).1) (fun j => (chg_ok (by omega) (by omega) (by omega) (by omega) j).2) (fun j => (chg_ok (by omega) (by omega) (by omega) (by omega) j).1) (fun j => (chg_ok (by omega) (by omega) (by omega) (by omega) j).2) hP rfl

set_option maxRecDepth 100000 in
set_option maxHeartbeats 8000000 in
theorem joins_calls (A0 : Option Addr) (c0 : Nat) (A1 : Option Addr) (c1 : Nat) (a : S24) (P0 : Option Addr) (p0 : Nat) (P1 : Option Addr) (p1 : Nat) (b : S24) (Q0 : Option Addr) (q0 : Nat) (Q1 : Option Addr) (q1 : Nat) (c : S24) (w : World)
    (hA0 : Kd.C Kd.string w A0 a.f0.length a.f0) (ha0 : a.f0.length ≤ c0) (hA1 : Kd.C Kd.string w A1 a.f1.length a.f1) (ha1 : a.f1.length ≤ c1)
    (hP0 : Kd.C Kd.string w P0 b.f0.length b.f0) (hp0 : b.f0.length ≤ p0) (hP1 : Kd.C Kd.string w P1 b.f1.length b.f1) (hp1 : b.f1.length ≤ p1)
    (hQ0 : Kd.C Kd.string w Q0 c.f0.length c.f0) (hq0 : c.f0.length ≤ q0) (hQ1 : Kd.C Kd.string w Q1 c.f1.length c.f1) (hq1 : c.f1.length ≤ q1)
    (hLa : (imageL a.f0 a.f1 a.f2).length ≤ 140737488355328) (hLb : (imageL b.f0 b.f1 b.f2).length ≤ 140737488355328) (hLc : (imageL c.f0 c.f1 c.f2).length ≤ 140737488355328)
    (hma : a.f0.length ≤ 5864062014805 ∧ a.f1.length ≤ 5864062014805) (hmb : b.f0.length ≤ 5864062014805 ∧ b.f1.length ≤ 5864062014805) (hmc : c.f0.length ≤ 5864062014805 ∧ c.f1.length ≤ 5864062014805)
    (hta : wtI a ≤ 281474976710656) (htb : wtI b ≤ 281474976710656) (htc : wtI c ≤ 281474976710656) :
    Calls Try.prog 7 #[.agg #[.slice A0 a.f0.length c0, .slice A1 a.f1.length c1, .string a.f2], .agg #[.slice P0 b.f0.length p0, .slice P1 b.f1.length p1, .string b.f2], .agg #[.slice Q0 c.f0.length q0, .slice Q1 c.f1.length q1, .string c.f2]] w fun e w' => e = .returned (.bool true) ∧ Below w.heap.size w w' := by
  have BA0 := ((Blk.new w 24 #[.slice A0 a.f0.length c0, .slice A1 a.f1.length c1, .string a.f2]).alloc (.cells #[.slice P0 b.f0.length p0, .slice P1 b.f1.length p1, .string b.f2] 24)).alloc (.cells #[.slice Q0 c.f0.length q0, .slice Q1 c.f1.length q1, .string c.f2] 24)
  have BB0 := (Blk.new (w.alloc (.cells #[.slice A0 a.f0.length c0, .slice A1 a.f1.length c1, .string a.f2] 24)) 24 #[.slice P0 b.f0.length p0, .slice P1 b.f1.length p1, .string b.f2]).alloc (.cells #[.slice Q0 c.f0.length q0, .slice Q1 c.f1.length q1, .string c.f2] 24)
  have BC0 := Blk.new ((w.alloc (.cells #[.slice A0 a.f0.length c0, .slice A1 a.f1.length c1, .string a.f2] 24)).alloc (.cells #[.slice P0 b.f0.length p0, .slice P1 b.f1.length p1, .string b.f2] 24)) 24 #[.slice Q0 c.f0.length q0, .slice Q1 c.f1.length q1, .string c.f2]
  have W0 := (((Below.refl w.heap.size w).alloc (Nat.le_refl _) (.cells #[.slice A0 a.f0.length c0, .slice A1 a.f1.length c1, .string a.f2] 24)).alloc (by simp) (.cells #[.slice P0 b.f0.length p0, .slice P1 b.f1.length p1, .string b.f2] 24)).alloc (by simp; omega) (.cells #[.slice Q0 c.f0.length q0, .slice Q1 c.f1.length q1, .string c.f2] 24)
  rw [sz] at BB0
  rw [sz, sz] at BC0
  generalize hw0 : (((w.alloc (.cells #[.slice A0 a.f0.length c0, .slice A1 a.f1.length c1, .string a.f2] 24)).alloc (.cells #[.slice P0 b.f0.length p0, .slice P1 b.f1.length p1, .string b.f2] 24)).alloc (.cells #[.slice Q0 c.f0.length q0, .slice Q1 c.f1.length q1, .string c.f2] 24)) = w0 at BA0 BB0 BC0 W0
  have HW0 := Aside0.mk hw0
  clear hw0
  obtain ⟨kg, rg, hg⟩ := great_f 5864062014805 [a, b, c] (by simp) (by simp; omega) (Nat.le_refl _)
  have hgn : rg = false → wtS [a, b, c] ≤ 4000 := fun h => great_no (k := kg) (by simp) (by simp; omega) (by simp only [wtS]; omega) (by rw [← h]; exact hg)
  have HGN := Aside0.mk hgn
  clear hgn
  have hap := apart_f [a, b, c] (by simp) (by simp only [List.mem_cons, List.not_mem_nil, or_false]; rintro x (rfl | rfl | rfl); exact ⟨hma.1, hma.2, hLa⟩; exact ⟨hmb.1, hmb.2, hLb⟩; exact ⟨hmc.1, hmc.2, hLc⟩) (k := 281474976711656) (by simp)
  have W1 := W0.alloc W0.size (.cells #[.slice A0 a.f0.length c0, .slice A1 a.f1.length c1, .string a.f2, .slice P0 b.f0.length p0, .slice P1 b.f1.length p1, .string b.f2, .slice Q0 c.f0.length q0, .slice Q1 c.f1.length q1, .string c.f2] 24)
  have GC := Aside0.mk (hibernaclelaw35_great.calls kg _ 3 [a, b, c] rg _ (imgs3 A0 c0 A1 c1 a P0 p0 P1 p1 b Q0 q0 Q1 q1 c (Kd.C_below hA0 W1) ha0 (Kd.C_below hA1 W1) ha1 (Kd.C_below hP0 W1) hp0 (Kd.C_below hP1 W1) hp1 (Kd.C_below hQ0 W1) hq0 (Kd.C_below hQ1 W1) hq1 (Blk.new w0 24 #[.slice A0 a.f0.length c0, .slice A1 a.f1.length c1, .string a.f2, .slice P0 b.f0.length p0, .slice P1 b.f1.length p1, .string b.f2, .slice Q0 c.f0.length q0, .slice Q1 c.f1.length q1, .string c.f2])) (by simp) hg)
  have BA1 := Aside0.mk (BA0.alloc (.cells #[.slice A0 a.f0.length c0, .slice A1 a.f1.length c1, .string a.f2, .slice P0 b.f0.length p0, .slice P1 b.f1.length p1, .string b.f2, .slice Q0 c.f0.length q0, .slice Q1 c.f1.length q1, .string c.f2] 24))
  have BB1 := Aside0.mk (BB0.alloc (.cells #[.slice A0 a.f0.length c0, .slice A1 a.f1.length c1, .string a.f2, .slice P0 b.f0.length p0, .slice P1 b.f1.length p1, .string b.f2, .slice Q0 c.f0.length q0, .slice Q1 c.f1.length q1, .string c.f2] 24))
  have BC1 := Aside0.mk (BC0.alloc (.cells #[.slice A0 a.f0.length c0, .slice A1 a.f1.length c1, .string a.f2, .slice P0 b.f0.length p0, .slice P1 b.f1.length p1, .string b.f2, .slice Q0 c.f0.length q0, .slice Q1 c.f1.length q1, .string c.f2] 24))
  have BA0 := Aside0.mk BA0
  have BB0 := Aside0.mk BB0
  have BC0 := Aside0.mk BC0
  have W0 := Aside0.mk W0
  have W1 := Aside0.mk W1
  have APT := Aside0.mk (fun h => aptB_apt (l := (noth :: [a, b, c]).map imgB) h)
  generalize aptB ((noth :: [a, b, c]).map imgB) = ra at hap APT
  clear hg
  go_enter Try.func7, Try.ntmps7
  go_wp2_with (first | (rw [show (((w.alloc (.cells #[.slice A0 a.f0.length c0, .slice A1 a.f1.length c1, .string a.f2] 24)).alloc (.cells #[.slice P0 b.f0.length p0, .slice P1 b.f1.length p1, .string b.f2] 24)).alloc (.cells #[.slice Q0 c.f0.length q0, .slice Q1 c.f1.length q1, .string c.f2] 24)) = w0 from HW0.out]) | (refine wpList_load_midg (by rfl) 24 (.tmp 3) rfl w.heap.size 0 rfl _ (loadAt_row BA0.out Try.underlying24 rfl (by kernel_rfl)) ?_) | (refine wpList_load_midg (by rfl) 24 (.tmp 4) rfl (w.heap.size + 1) 0 rfl _ (loadAt_row BB0.out Try.underlying24 rfl (by kernel_rfl)) ?_) | (refine wpList_load_midg (by rfl) 24 (.tmp 5) rfl (w.heap.size + 1 + 1) 0 rfl _ (loadAt_row BC0.out Try.underlying24 rfl (by kernel_rfl)) ?_))
  refine (GC.out).mono ?_
  rintro e w2 ⟨rfl, hb⟩
  have BA2 := Aside0.mk (BA1.out.below hb BA1.out.lt); have BB2 := Aside0.mk (BB1.out.below hb BB1.out.lt); have BC2 := Aside0.mk (BC1.out.below hb BC1.out.lt); have W2 := Aside0.mk (below_then W1.out W1.out.size hb)
  clear hb GC BA0 BB0 BC0 W0 BA1 BB1 BC1 W1 HW0
  cases rg with
  | true =>
    go_wp2_with ((with_reducible refine (fixed_calls _).mono ?_); rintro e wf ⟨rfl, hb⟩; have WF := Aside0.mk (below_then W2.out W2.out.size hb); clear hb)
    go_wp2_with fail
    go_ret
    exact ⟨rfl, WF.out⟩
  | false =>
    have HG := Aside0.mk (HGN.out rfl)
    clear HGN
    have W4 := W2.out.alloc W2.out.size (.cells #[.slice A0 a.f0.length c0, .slice A1 a.f1.length c1, .string a.f2, .slice P0 b.f0.length p0, .slice P1 b.f1.length p1, .string b.f2, .slice Q0 c.f0.length q0, .slice Q1 c.f1.length q1, .string c.f2] 24)
    have AC := Aside0.mk (hibernaclelaw35_apart.calls 281474976711656 _ 3 [a, b, c] ra _ (imgs3 A0 c0 A1 c1 a P0 p0 P1 p1 b Q0 q0 Q1 q1 c (Kd.C_below hA0 W4) ha0 (Kd.C_below hA1 W4) ha1 (Kd.C_below hP0 W4) hp0 (Kd.C_below hP1 W4) hp1 (Kd.C_below hQ0 W4) hq0 (Kd.C_below hQ1 W4) hq1 (Blk.new w2 24 #[.slice A0 a.f0.length c0, .slice A1 a.f1.length c1, .string a.f2, .slice P0 b.f0.length p0, .slice P1 b.f1.length p1, .string b.f2, .slice Q0 c.f0.length q0, .slice Q1 c.f1.length q1, .string c.f2])) (by simp) hap)
    have BA4 := Aside0.mk (BA2.out.alloc (.cells #[.slice A0 a.f0.length c0, .slice A1 a.f1.length c1, .string a.f2, .slice P0 b.f0.length p0, .slice P1 b.f1.length p1, .string b.f2, .slice Q0 c.f0.length q0, .slice Q1 c.f1.length q1, .string c.f2] 24))
    have BB4 := Aside0.mk (BB2.out.alloc (.cells #[.slice A0 a.f0.length c0, .slice A1 a.f1.length c1, .string a.f2, .slice P0 b.f0.length p0, .slice P1 b.f1.length p1, .string b.f2, .slice Q0 c.f0.length q0, .slice Q1 c.f1.length q1, .string c.f2] 24))
    have BC4 := Aside0.mk (BC2.out.alloc (.cells #[.slice A0 a.f0.length c0, .slice A1 a.f1.length c1, .string a.f2, .slice P0 b.f0.length p0, .slice P1 b.f1.length p1, .string b.f2, .slice Q0 c.f0.length q0, .slice Q1 c.f1.length q1, .string c.f2] 24))
    have W4 := Aside0.mk W4
    clear hap
    go_wp2_with (first | (refine wpList_load_midg (by rfl) 24 (.tmp 3) rfl w.heap.size 0 rfl _ (loadAt_row BA2.out Try.underlying24 rfl (by kernel_rfl)) ?_) | (refine wpList_load_midg (by rfl) 24 (.tmp 4) rfl (w.heap.size + 1) 0 rfl _ (loadAt_row BB2.out Try.underlying24 rfl (by kernel_rfl)) ?_) | (refine wpList_load_midg (by rfl) 24 (.tmp 5) rfl (w.heap.size + 1 + 1) 0 rfl _ (loadAt_row BC2.out Try.underlying24 rfl (by kernel_rfl)) ?_))
    refine (AC.out).mono ?_
    rintro e w5 ⟨rfl, hb⟩
    have BA5 := Aside0.mk (BA4.out.below hb BA4.out.lt); have BB5 := Aside0.mk (BB4.out.below hb BB4.out.lt); have BC5 := Aside0.mk (BC4.out.below hb BC4.out.lt); have W5 := Aside0.mk (below_then W4.out W4.out.size hb)
    clear hb AC BA2 BB2 BC2 W2 BA4 BB4 BC4 W4
    cases ra with
    | false =>
      go_wp2_with ((with_reducible refine (fixed_calls _).mono ?_); rintro e wf ⟨rfl, hb⟩; have WF := Aside0.mk (below_then W5.out W5.out.size hb); clear hb)
      go_wp2_with fail
      go_ret
      exact ⟨rfl, WF.out⟩
    | true =>
      have apt := APT.out rfl
      rw [List.length_map] at apt
      have iNA : iSum noth = iSum a → noth = a := fun h => apt_inj apt (i := 0) (j := 1) (by simp) (by simp) h
      have iNB : iSum noth = iSum b → noth = b := fun h => apt_inj apt (i := 0) (j := 2) (by simp) (by simp) h
      have hGG := HG.out
      simp only [wtS] at hGG
      have bnd : ∀ x : S24, wtI x ≤ 4000 → x.f0.length ≤ 1000 ∧ x.f1.length ≤ 1000 := fun x h => by
        have h0 := wt_len x.f0
        have h1 := wt_len x.f1
        unfold wtI at h
        omega
      obtain ⟨y, J, j1, j2, hJ, hcase, hd0, hd1, JC⟩ := join_c a b c (bnd a (by omega)) (bnd b (by omega)) (bnd c (by omega)) (by omega) (by omega) iNA iNB
      have hr1 := writes_f (aOf a b).f0 b.f0 hmb.1 (k := 5864062014806) (by omega)
      have hr2 := writes_f (aOf a b).f1 b.f1 hmb.2 (k := 5864062014806) (by omega)
      have hs1 := writes_f (aOf b c).f0 c.f0 hmc.1 (k := 5864062014806) (by omega)
      have hs2 := writes_f (aOf b c).f1 c.f1 hmc.2 (k := 5864062014806) (by omega)
      have OC1 : Aside0 (∀ W, Below w5.heap.size w5 W → Calls Try.prog 11 #[.agg #[.slice A0 a.f0.length c0, .slice A1 a.f1.length c1, .string a.f2], .agg #[.slice P0 b.f0.length p0, .slice P1 b.f1.length p1, .string b.f2]] W fun e w' => ∃ v, e = .returned v ∧ DeltaAt w' W.heap.size v (iSum (aOf a b)) (chg (aOf a b).f0 b.f0 b.f0.length) (chg (aOf a b).f1 b.f1 b.f1.length) b.f2 (iSum b) ∧ Below W.heap.size W w') := ⟨fun W hb => by
        have WW : Aside0 (Below w.heap.size w W) := ⟨below_then W5.out W5.out.size hb⟩
        refine (of_calls 5864062014806 A0 c0 A1 c1 a P0 p0 P1 p1 b _ _ W (Kd.C_below hA0 WW.out) ha0 (Kd.C_below hA1 WW.out) ha1 (Kd.C_below hP0 WW.out) hp0 (Kd.C_below hP1 WW.out) hp1 hLa hLb hr1 hr2).mono ?_
        rintro e w' ⟨A1, c1, A2, c2, rfl, h1, h2, hb⟩
        exact ⟨_, rfl, ⟨A1, c1, A2, c2, rfl, h1, h2⟩, hb⟩⟩
      have OC2 : Aside0 (∀ W, Below w5.heap.size w5 W → Calls Try.prog 11 #[.agg #[.slice P0 b.f0.length p0, .slice P1 b.f1.length p1, .string b.f2], .agg #[.slice Q0 c.f0.length q0, .slice Q1 c.f1.length q1, .string c.f2]] W fun e w' => ∃ v, e = .returned v ∧ DeltaAt w' W.heap.size v (iSum (aOf b c)) (chg (aOf b c).f0 c.f0 c.f0.length) (chg (aOf b c).f1 c.f1 c.f1.length) c.f2 (iSum c) ∧ Below W.heap.size W w') := ⟨fun W hb => by
        have WW : Aside0 (Below w.heap.size w W) := ⟨below_then W5.out W5.out.size hb⟩
        refine (of_calls 5864062014806 P0 p0 P1 p1 b Q0 q0 Q1 q1 c _ _ W (Kd.C_below hP0 WW.out) hp0 (Kd.C_below hP1 WW.out) hp1 (Kd.C_below hQ0 WW.out) hq0 (Kd.C_below hQ1 WW.out) hq1 hLb hLc hs1 hs2).mono ?_
        rintro e w' ⟨A1, c1, A2, c2, rfl, h1, h2, hb⟩
        exact ⟨_, rfl, ⟨A1, c1, A2, c2, rfl, h1, h2⟩, hb⟩⟩
      obtain ⟨ri2, hi2, hir2⟩ := images_f c c hmc.1 hmc.2 (k := 5864062014806) (by omega)
      obtain rfl : ri2 = true := hir2.2 rfl
      have DLx := imgSum_dig (aOf a b).f0 (aOf a b).f1 (aOf a b).f2
      have DMx := imgSum_dig b.f0 b.f1 b.f2
      have DPx := imgSum_dig (aOf b c).f0 (aOf b c).f1 (aOf b c).f2
      have DQx := imgSum_dig c.f0 c.f1 c.f2
      clear iNA iNB apt hr1 hr2 hs1 hs2 bnd hGG HG hir2
      have JC := Aside0.mk JC
      obtain ⟨Q, hQs⟩ : ∃ Q, Q = iSum c := ⟨_, rfl⟩
      rw [← hQs] at OC2 JC
      have hsum : imgSum c.f0 c.f1 c.f2 = Q := hQs.symm
      have DQx : Dig Q := by rw [hQs]; exact DQx
      generalize hL1 : iSum (aOf a b) = L at OC1 JC
      have DLx : Dig L := by rw [← hL1]; exact DLx
      generalize hM1 : iSum b = M at OC1 JC
      have DMx : Dig M := by rw [← hM1]; exact DMx
      generalize hP1' : iSum (aOf b c) = P at OC2 JC
      have DPx : Dig P := by rw [← hP1']; exact DPx
      generalize chg (aOf a b).f0 b.f0 b.f0.length = r1 at OC1 JC
      generalize chg (aOf a b).f1 b.f1 b.f1.length = r2 at OC1 JC
      generalize chg (aOf b c).f0 c.f0 c.f0.length = n1 at OC2 JC
      generalize chg (aOf b c).f1 c.f1 c.f1.length = n2 at OC2 JC
      have HSU := Aside0.mk hsum
      have HCASE := Aside0.mk hcase
      have hL := Aside0.mk DLx
      have hM := Aside0.mk DMx
      have hP := Aside0.mk DPx
      have hQ := Aside0.mk DQx
      have hJ := Aside0.mk hJ
      clear hL1 hM1 hP1' hQs DLx DMx DPx DQx hsum hcase
      have X0 : Aside0 (JX w5 w5.drew w.heap.size (w.heap.size + 1) (w.heap.size + 1 + 1) #[.slice A0 a.f0.length c0, .slice A1 a.f1.length c1, .string a.f2] #[.slice P0 b.f0.length p0, .slice P1 b.f1.length p1, .string b.f2] #[.slice Q0 c.f0.length q0, .slice Q1 c.f1.length q1, .string c.f2] L r1 r2 b.f2 M P n1 n2 c.f2 Q none none none none) := ⟨⟨below_drew (Below.refl _ w5), BA5.out.drew, BB5.out.drew, BC5.out.drew, ⟨BA5.out.lt, BB5.out.lt, BC5.out.lt⟩, by simp, by simp, by simp, by simp, by simp⟩⟩
      go_wp2_with fail
      refine start_ (n := 10) (S := fun w' => Blk w' w.heap.size 24 #[.slice A0 a.f0.length c0, .slice A1 a.f1.length c1, .string a.f2] ∧ Blk w' (w.heap.size + 1) 24 #[.slice P0 b.f0.length p0, .slice P1 b.f1.length p1, .string b.f2] ∧ Blk w' (w.heap.size + 1 + 1) 24 #[.slice Q0 c.f0.length q0, .slice Q1 c.f1.length q1, .string c.f2]) (ds := [8, 9]) #[false, false, false, false, false, false, false, false, false, false] (by kernel_rfl) rfl rfl ⟨X0.out.boxA, X0.out.boxB, X0.out.boxC⟩ (fun hHeld => ?_)
      generalize w5.drew = wd at hHeld X0 ⊢
      refine take_ (i := 0) (N := some 27) (v := ?_) (a' := ?_) #[true, false, false, false, false, false, false, false, false, false] rfl rfl (by kernel_rfl) (fun _ _ _ h => h) (Or.inl ⟨by rfl, ?_⟩) hHeld ?_ ?_
      rotate_left
      · rintro w' ⟨s0, s1, s2⟩
        refine row_loads 24 (.tmp 3) ?_ w.heap.size ?_ s0 Try.underlying24 ?_ ?_
        · rfl
        · rfl
        · rfl
        · kernel_rfl
      rotate_left
      · simp only [Act.put, List.setIfInBounds_toArray, List.set_cons_zero, List.set_cons_succ, i64_w, i32_w]
        rfl
      refine take_ (i := 1) (N := some 28) (v := ?_) (a' := ?_) #[true, true, false, false, false, false, false, false, false, false] rfl rfl (by kernel_rfl) (fun _ _ _ h => h) (Or.inl ⟨by rfl, ?_⟩) hHeld ?_ ?_
      rotate_left
      · rintro w' ⟨s0, s1, s2⟩
        refine row_loads 24 (.tmp 4) ?_ (w.heap.size + 1) ?_ s1 Try.underlying24 ?_ ?_
        · rfl
        · rfl
        · rfl
        · kernel_rfl
      rotate_left
      · simp only [Act.put, List.setIfInBounds_toArray, List.set_cons_zero, List.set_cons_succ, i64_w, i32_w]
        rfl
      refine take_ (i := 3) (N := some 30) (v := ?_) (a' := ?_) #[true, true, false, true, false, false, false, false, false, false] rfl rfl (by kernel_rfl) (fun _ _ _ h => h) (Or.inl ⟨by rfl, ?_⟩) hHeld ?_ ?_
      rotate_left
      · rintro w' ⟨s0, s1, s2⟩
        refine row_loads 24 (.tmp 4) ?_ (w.heap.size + 1) ?_ s1 Try.underlying24 ?_ ?_
        · rfl
        · rfl
        · rfl
        · kernel_rfl
      rotate_left
      · simp only [Act.put, List.setIfInBounds_toArray, List.set_cons_zero, List.set_cons_succ, i64_w, i32_w]
        rfl
      refine take_ (i := 4) (N := some 31) (v := ?_) (a' := ?_) #[true, true, false, true, true, false, false, false, false, false] rfl rfl (by kernel_rfl) (fun _ _ _ h => h) (Or.inl ⟨by rfl, ?_⟩) hHeld ?_ ?_
      rotate_left
      · rintro w' ⟨s0, s1, s2⟩
        refine row_loads 24 (.tmp 5) ?_ (w.heap.size + 1 + 1) ?_ s2 Try.underlying24 ?_ ?_
        · rfl
        · rfl
        · rfl
        · kernel_rfl
      rotate_left
      · simp only [Act.put, List.setIfInBounds_toArray, List.set_cons_zero, List.set_cons_succ, i64_w, i32_w]
        rfl
      refine join_ (σ := Value × Value × Nat × Nat) 2 #[true, true, true, true, true, true, true, true, false, false] (fun s => [(29, s.1), (32, s.2.1), (7, .pointer (some ⟨s.2.2.1, 0, none⟩)), (8, .pointer (some ⟨s.2.2.2, 0, none⟩))]) (fun s w' => JX w5 w' w.heap.size (w.heap.size + 1) (w.heap.size + 1 + 1) #[.slice A0 a.f0.length c0, .slice A1 a.f1.length c1, .string a.f2] #[.slice P0 b.f0.length p0, .slice P1 b.f1.length p1, .string b.f2] #[.slice Q0 c.f0.length q0, .slice Q1 c.f1.length q1, .string c.f2] L r1 r2 b.f2 M P n1 n2 c.f2 Q (some s.1) (some s.2.1) (some s.2.2.1) (some s.2.2.2)) ?_ ?_
      rotate_left
      · intro hCont
        refine three_ (i := 2) (j := 6) (k := 7) (Ni := some 29) (Nj := some 7) (Nk := some 8) #[true, true, true, true, true, false, false, false, false, false] #[true, true, false, true, true, false, true, false, false, false] #[true, true, false, true, true, false, false, true, false, false] rfl rfl rfl rfl rfl rfl (by kernel_rfl) (by decide) (by decide) (by decide) (fun K hK => ?_) (fun K hK => ?_) (fun K hK => ?_)
        · skip
          refine goes_ Try.func11 (by kernel_rfl) rfl #[.agg #[.slice A0 a.f0.length c0, .slice A1 a.f1.length c1, .string a.f2], .agg #[.slice P0 b.f0.length p0, .slice P1 b.f1.length p1, .string b.f2]] (by rfl) rfl rfl (by simp only [List.map_toArray, List.map_cons, List.map_nil]; rfl) ?_
          with_reducible refine (OC1.out _ X0.out.below).mono ?_
          rintro e x3 ⟨va, rfl, hd, hb⟩
          refine ⟨_, rfl, ?_⟩
          have X1 := Aside0.mk ((X0.out.on hb).set2 (hd.lower X0.out.below.size))
          clear hd hb
          refine hK.out _ _ ⟨X1.out.boxA, X1.out.boxB, X1.out.boxC⟩ (fun hHeld => ?_)
          clear hK K
          refine norm_ (a' := ?_) ?_ ?_
          rotate_left
          · show Act.put _ (some 29) _ = _
            simp only [Act.put, List.setIfInBounds_toArray, List.set_cons_zero, List.set_cons_succ, i64_w, i32_w]
            rfl
          refine three_ (i := 5) (j := 6) (k := 7) (Ni := some 32) (Nj := some 7) (Nk := some 8) #[true, true, true, true, true, true, false, false, false, false] #[true, true, true, true, true, false, true, false, false, false] #[true, true, true, true, true, false, false, true, false, false] rfl rfl rfl rfl rfl rfl (by kernel_rfl) (by decide) (by decide) (by decide) (fun K hK => ?_) (fun K hK => ?_) (fun K hK => ?_)
          · skip
            refine goes_ Try.func11 (by kernel_rfl) rfl #[.agg #[.slice P0 b.f0.length p0, .slice P1 b.f1.length p1, .string b.f2], .agg #[.slice Q0 c.f0.length q0, .slice Q1 c.f1.length q1, .string c.f2]] (by rfl) rfl rfl (by simp only [List.map_toArray, List.map_cons, List.map_nil]; rfl) ?_
            with_reducible refine (OC2.out _ X1.out.below).mono ?_
            rintro e x4 ⟨vb, rfl, hd, hb⟩
            refine ⟨_, rfl, ?_⟩
            have X2 := Aside0.mk ((X1.out.on hb).set5 (hd.lower X1.out.below.size))
            clear hd hb
            refine hK.out _ _ ⟨X2.out.boxA, X2.out.boxB, X2.out.boxC⟩ (fun hHeld => ?_)
            clear hK K
            refine norm_ (a' := ?_) ?_ ?_
            rotate_left
            · show Act.put _ (some 32) _ = _
              simp only [Act.put, List.setIfInBounds_toArray, List.set_cons_zero, List.set_cons_succ, i64_w, i32_w]
              rfl
            refine two_ (i := 6) (j := 7) (Ni := some 7) (Nj := some 8) #[true, true, true, true, true, true, true, false, false, false] #[true, true, true, true, true, true, false, true, false, false] rfl rfl rfl rfl (by kernel_rfl) (by decide) (by decide) (fun K hK => ?_) (fun K hK => ?_)
            · skip
              refine value_ (w1 := ?_) (v := ?_) (by rfl) rfl ?_ ?_
              rotate_left 2
              · go_simp
                constructor
                · rfl
                · rfl
              have X3 := Aside0.mk (X2.out.alloc6)
              generalize x4.alloc (.cells Try.zeroCells32 32) = x5 at X3 ⊢
              generalize x4.heap.size = k6 at X3 ⊢
              refine hK.out _ _ ⟨X3.out.boxA, X3.out.boxB, X3.out.boxC⟩ (fun hHeld => ?_)
              clear hK K
              refine norm_ (a' := ?_) ?_ ?_
              rotate_left
              · show Act.put _ (some 7) _ = _
                simp only [Act.put, List.setIfInBounds_toArray, List.set_cons_zero, List.set_cons_succ, i64_w, i32_w]
                rfl
              refine one_ (i := 7) (N := some 8) #[true, true, true, true, true, true, true, true, false, false] rfl rfl (by kernel_rfl) (by decide) (fun K hK => ?_)
              refine value_ (w1 := ?_) (v := ?_) (by rfl) rfl ?_ ?_
              rotate_left 2
              · go_simp
                constructor
                · rfl
                · rfl
              have X4 := Aside0.mk (X3.out.alloc7)
              generalize x5.alloc (.cells Try.zeroCells32 32) = x6 at X4 ⊢
              generalize x5.heap.size = k7 at X4 ⊢
              refine hK.out _ _ ⟨X4.out.boxA, X4.out.boxB, X4.out.boxC⟩ (fun hHeld => ?_)
              clear hK K
              refine norm_ (a' := ?_) ?_ ?_
              rotate_left
              · show Act.put _ (some 8) _ = _
                simp only [Act.put, List.setIfInBounds_toArray, List.set_cons_zero, List.set_cons_succ, i64_w, i32_w]
                rfl
              exact norm_ (by simp only [putAll, Act.put, List.setIfInBounds_toArray, List.set_cons_zero, List.set_cons_succ, sz]) (hCont ⟨va, vb, k6, k7⟩ _ X4.out)
            · skip
              refine value_ (w1 := ?_) (v := ?_) (by rfl) rfl ?_ ?_
              rotate_left 2
              · go_simp
                constructor
                · rfl
                · rfl
              have X3 := Aside0.mk (X2.out.alloc7)
              generalize x4.alloc (.cells Try.zeroCells32 32) = x5 at X3 ⊢
              generalize x4.heap.size = k7 at X3 ⊢
              refine hK.out _ _ ⟨X3.out.boxA, X3.out.boxB, X3.out.boxC⟩ (fun hHeld => ?_)
              clear hK K
              refine norm_ (a' := ?_) ?_ ?_
              rotate_left
              · show Act.put _ (some 8) _ = _
                simp only [Act.put, List.setIfInBounds_toArray, List.set_cons_zero, List.set_cons_succ, i64_w, i32_w]
                rfl
              refine one_ (i := 6) (N := some 7) #[true, true, true, true, true, true, true, true, false, false] rfl rfl (by kernel_rfl) (by decide) (fun K hK => ?_)
              refine value_ (w1 := ?_) (v := ?_) (by rfl) rfl ?_ ?_
              rotate_left 2
              · go_simp
                constructor
                · rfl
                · rfl
              have X4 := Aside0.mk (X3.out.alloc6)
              generalize x5.alloc (.cells Try.zeroCells32 32) = x6 at X4 ⊢
              generalize x5.heap.size = k6 at X4 ⊢
              refine hK.out _ _ ⟨X4.out.boxA, X4.out.boxB, X4.out.boxC⟩ (fun hHeld => ?_)
              clear hK K
              refine norm_ (a' := ?_) ?_ ?_
              rotate_left
              · show Act.put _ (some 7) _ = _
                simp only [Act.put, List.setIfInBounds_toArray, List.set_cons_zero, List.set_cons_succ, i64_w, i32_w]
                rfl
              exact norm_ (by simp only [putAll, Act.put, List.setIfInBounds_toArray, List.set_cons_zero, List.set_cons_succ, sz]) (hCont ⟨va, vb, k6, k7⟩ _ X4.out)
          · skip
            refine value_ (w1 := ?_) (v := ?_) (by rfl) rfl ?_ ?_
            rotate_left 2
            · go_simp
              constructor
              · rfl
              · rfl
            have X2 := Aside0.mk (X1.out.alloc6)
            generalize x3.alloc (.cells Try.zeroCells32 32) = x4 at X2 ⊢
            generalize x3.heap.size = k6 at X2 ⊢
            refine hK.out _ _ ⟨X2.out.boxA, X2.out.boxB, X2.out.boxC⟩ (fun hHeld => ?_)
            clear hK K
            refine norm_ (a' := ?_) ?_ ?_
            rotate_left
            · show Act.put _ (some 7) _ = _
              simp only [Act.put, List.setIfInBounds_toArray, List.set_cons_zero, List.set_cons_succ, i64_w, i32_w]
              rfl
            refine two_ (i := 5) (j := 7) (Ni := some 32) (Nj := some 8) #[true, true, true, true, true, true, true, false, false, false] #[true, true, true, true, true, false, true, true, false, false] rfl rfl rfl rfl (by kernel_rfl) (by decide) (by decide) (fun K hK => ?_) (fun K hK => ?_)
            · skip
              refine goes_ Try.func11 (by kernel_rfl) rfl #[.agg #[.slice P0 b.f0.length p0, .slice P1 b.f1.length p1, .string b.f2], .agg #[.slice Q0 c.f0.length q0, .slice Q1 c.f1.length q1, .string c.f2]] (by rfl) rfl rfl (by simp only [List.map_toArray, List.map_cons, List.map_nil]; rfl) ?_
              with_reducible refine (OC2.out _ X2.out.below).mono ?_
              rintro e x5 ⟨vb, rfl, hd, hb⟩
              refine ⟨_, rfl, ?_⟩
              have X3 := Aside0.mk ((X2.out.on hb).set5 (hd.lower X2.out.below.size))
              clear hd hb
              refine hK.out _ _ ⟨X3.out.boxA, X3.out.boxB, X3.out.boxC⟩ (fun hHeld => ?_)
              clear hK K
              refine norm_ (a' := ?_) ?_ ?_
              rotate_left
              · show Act.put _ (some 32) _ = _
                simp only [Act.put, List.setIfInBounds_toArray, List.set_cons_zero, List.set_cons_succ, i64_w, i32_w]
                rfl
              refine one_ (i := 7) (N := some 8) #[true, true, true, true, true, true, true, true, false, false] rfl rfl (by kernel_rfl) (by decide) (fun K hK => ?_)
              refine value_ (w1 := ?_) (v := ?_) (by rfl) rfl ?_ ?_
              rotate_left 2
              · go_simp
                constructor
                · rfl
                · rfl
              have X4 := Aside0.mk (X3.out.alloc7)
              generalize x5.alloc (.cells Try.zeroCells32 32) = x6 at X4 ⊢
              generalize x5.heap.size = k7 at X4 ⊢
              refine hK.out _ _ ⟨X4.out.boxA, X4.out.boxB, X4.out.boxC⟩ (fun hHeld => ?_)
              clear hK K
              refine norm_ (a' := ?_) ?_ ?_
              rotate_left
              · show Act.put _ (some 8) _ = _
                simp only [Act.put, List.setIfInBounds_toArray, List.set_cons_zero, List.set_cons_succ, i64_w, i32_w]
                rfl
              exact norm_ (by simp only [putAll, Act.put, List.setIfInBounds_toArray, List.set_cons_zero, List.set_cons_succ, sz]) (hCont ⟨va, vb, k6, k7⟩ _ X4.out)
            · skip
              refine value_ (w1 := ?_) (v := ?_) (by rfl) rfl ?_ ?_
              rotate_left 2
              · go_simp
                constructor
                · rfl
                · rfl
              have X3 := Aside0.mk (X2.out.alloc7)
              generalize x4.alloc (.cells Try.zeroCells32 32) = x5 at X3 ⊢
              generalize x4.heap.size = k7 at X3 ⊢
              refine hK.out _ _ ⟨X3.out.boxA, X3.out.boxB, X3.out.boxC⟩ (fun hHeld => ?_)
              clear hK K
              refine norm_ (a' := ?_) ?_ ?_
              rotate_left
              · show Act.put _ (some 8) _ = _
                simp only [Act.put, List.setIfInBounds_toArray, List.set_cons_zero, List.set_cons_succ, i64_w, i32_w]
                rfl
              refine one_ (i := 5) (N := some 32) #[true, true, true, true, true, true, true, true, false, false] rfl rfl (by kernel_rfl) (by decide) (fun K hK => ?_)
              refine goes_ Try.func11 (by kernel_rfl) rfl #[.agg #[.slice P0 b.f0.length p0, .slice P1 b.f1.length p1, .string b.f2], .agg #[.slice Q0 c.f0.length q0, .slice Q1 c.f1.length q1, .string c.f2]] (by rfl) rfl rfl (by simp only [List.map_toArray, List.map_cons, List.map_nil]; rfl) ?_
              with_reducible refine (OC2.out _ X3.out.below).mono ?_
              rintro e x6 ⟨vb, rfl, hd, hb⟩
              refine ⟨_, rfl, ?_⟩
              have X4 := Aside0.mk ((X3.out.on hb).set5 (hd.lower X3.out.below.size))
              clear hd hb
              refine hK.out _ _ ⟨X4.out.boxA, X4.out.boxB, X4.out.boxC⟩ (fun hHeld => ?_)
              clear hK K
              refine norm_ (a' := ?_) ?_ ?_
              rotate_left
              · show Act.put _ (some 32) _ = _
                simp only [Act.put, List.setIfInBounds_toArray, List.set_cons_zero, List.set_cons_succ, i64_w, i32_w]
                rfl
              exact norm_ (by simp only [putAll, Act.put, List.setIfInBounds_toArray, List.set_cons_zero, List.set_cons_succ, sz]) (hCont ⟨va, vb, k6, k7⟩ _ X4.out)
          · skip
            refine value_ (w1 := ?_) (v := ?_) (by rfl) rfl ?_ ?_
            rotate_left 2
            · go_simp
              constructor
              · rfl
              · rfl
            have X2 := Aside0.mk (X1.out.alloc7)
            generalize x3.alloc (.cells Try.zeroCells32 32) = x4 at X2 ⊢
            generalize x3.heap.size = k7 at X2 ⊢
            refine hK.out _ _ ⟨X2.out.boxA, X2.out.boxB, X2.out.boxC⟩ (fun hHeld => ?_)
            clear hK K
            refine norm_ (a' := ?_) ?_ ?_
            rotate_left
            · show Act.put _ (some 8) _ = _
              simp only [Act.put, List.setIfInBounds_toArray, List.set_cons_zero, List.set_cons_succ, i64_w, i32_w]
              rfl
            refine two_ (i := 5) (j := 6) (Ni := some 32) (Nj := some 7) #[true, true, true, true, true, true, false, true, false, false] #[true, true, true, true, true, false, true, true, false, false] rfl rfl rfl rfl (by kernel_rfl) (by decide) (by decide) (fun K hK => ?_) (fun K hK => ?_)
            · skip
              refine goes_ Try.func11 (by kernel_rfl) rfl #[.agg #[.slice P0 b.f0.length p0, .slice P1 b.f1.length p1, .string b.f2], .agg #[.slice Q0 c.f0.length q0, .slice Q1 c.f1.length q1, .string c.f2]] (by rfl) rfl rfl (by simp only [List.map_toArray, List.map_cons, List.map_nil]; rfl) ?_
              with_reducible refine (OC2.out _ X2.out.below).mono ?_
              rintro e x5 ⟨vb, rfl, hd, hb⟩
              refine ⟨_, rfl, ?_⟩
              have X3 := Aside0.mk ((X2.out.on hb).set5 (hd.lower X2.out.below.size))
              clear hd hb
              refine hK.out _ _ ⟨X3.out.boxA, X3.out.boxB, X3.out.boxC⟩ (fun hHeld => ?_)
              clear hK K
              refine norm_ (a' := ?_) ?_ ?_
              rotate_left
              · show Act.put _ (some 32) _ = _
                simp only [Act.put, List.setIfInBounds_toArray, List.set_cons_zero, List.set_cons_succ, i64_w, i32_w]
                rfl
              refine one_ (i := 6) (N := some 7) #[true, true, true, true, true, true, true, true, false, false] rfl rfl (by kernel_rfl) (by decide) (fun K hK => ?_)
              refine value_ (w1 := ?_) (v := ?_) (by rfl) rfl ?_ ?_
              rotate_left 2
              · go_simp
                constructor
                · rfl
                · rfl
              have X4 := Aside0.mk (X3.out.alloc6)
              generalize x5.alloc (.cells Try.zeroCells32 32) = x6 at X4 ⊢
              generalize x5.heap.size = k6 at X4 ⊢
              refine hK.out _ _ ⟨X4.out.boxA, X4.out.boxB, X4.out.boxC⟩ (fun hHeld => ?_)
              clear hK K
              refine norm_ (a' := ?_) ?_ ?_
              rotate_left
              · show Act.put _ (some 7) _ = _
                simp only [Act.put, List.setIfInBounds_toArray, List.set_cons_zero, List.set_cons_succ, i64_w, i32_w]
                rfl
              exact norm_ (by simp only [putAll, Act.put, List.setIfInBounds_toArray, List.set_cons_zero, List.set_cons_succ, sz]) (hCont ⟨va, vb, k6, k7⟩ _ X4.out)
            · skip
              refine value_ (w1 := ?_) (v := ?_) (by rfl) rfl ?_ ?_
              rotate_left 2
              · go_simp
                constructor
                · rfl
                · rfl
              have X3 := Aside0.mk (X2.out.alloc6)
              generalize x4.alloc (.cells Try.zeroCells32 32) = x5 at X3 ⊢
              generalize x4.heap.size = k6 at X3 ⊢
              refine hK.out _ _ ⟨X3.out.boxA, X3.out.boxB, X3.out.boxC⟩ (fun hHeld => ?_)
              clear hK K
              refine norm_ (a' := ?_) ?_ ?_
              rotate_left
              · show Act.put _ (some 7) _ = _
                simp only [Act.put, List.setIfInBounds_toArray, List.set_cons_zero, List.set_cons_succ, i64_w, i32_w]
                rfl
              refine one_ (i := 5) (N := some 32) #[true, true, true, true, true, true, true, true, false, false] rfl rfl (by kernel_rfl) (by decide) (fun K hK => ?_)
              refine goes_ Try.func11 (by kernel_rfl) rfl #[.agg #[.slice P0 b.f0.length p0, .slice P1 b.f1.length p1, .string b.f2], .agg #[.slice Q0 c.f0.length q0, .slice Q1 c.f1.length q1, .string c.f2]] (by rfl) rfl rfl (by simp only [List.map_toArray, List.map_cons, List.map_nil]; rfl) ?_
              with_reducible refine (OC2.out _ X3.out.below).mono ?_
              rintro e x6 ⟨vb, rfl, hd, hb⟩
              refine ⟨_, rfl, ?_⟩
              have X4 := Aside0.mk ((X3.out.on hb).set5 (hd.lower X3.out.below.size))
              clear hd hb
              refine hK.out _ _ ⟨X4.out.boxA, X4.out.boxB, X4.out.boxC⟩ (fun hHeld => ?_)
              clear hK K
              refine norm_ (a' := ?_) ?_ ?_
              rotate_left
              · show Act.put _ (some 32) _ = _
                simp only [Act.put, List.setIfInBounds_toArray, List.set_cons_zero, List.set_cons_succ, i64_w, i32_w]
                rfl
              exact norm_ (by simp only [putAll, Act.put, List.setIfInBounds_toArray, List.set_cons_zero, List.set_cons_succ, sz]) (hCont ⟨va, vb, k6, k7⟩ _ X4.out)
        · skip
          refine value_ (w1 := ?_) (v := ?_) (by rfl) rfl ?_ ?_
          rotate_left 2
          · go_simp
            constructor
            · rfl
            · rfl
          have X1 := Aside0.mk (X0.out.alloc6)
          generalize wd.alloc (.cells Try.zeroCells32 32) = x3 at X1 ⊢
          generalize wd.heap.size = k6 at X1 ⊢
          refine hK.out _ _ ⟨X1.out.boxA, X1.out.boxB, X1.out.boxC⟩ (fun hHeld => ?_)
          clear hK K
          refine norm_ (a' := ?_) ?_ ?_
          rotate_left
          · show Act.put _ (some 7) _ = _
            simp only [Act.put, List.setIfInBounds_toArray, List.set_cons_zero, List.set_cons_succ, i64_w, i32_w]
            rfl
          refine two_ (i := 2) (j := 7) (Ni := some 29) (Nj := some 8) #[true, true, true, true, true, false, true, false, false, false] #[true, true, false, true, true, false, true, true, false, false] rfl rfl rfl rfl (by kernel_rfl) (by decide) (by decide) (fun K hK => ?_) (fun K hK => ?_)
          · skip
            refine goes_ Try.func11 (by kernel_rfl) rfl #[.agg #[.slice A0 a.f0.length c0, .slice A1 a.f1.length c1, .string a.f2], .agg #[.slice P0 b.f0.length p0, .slice P1 b.f1.length p1, .string b.f2]] (by rfl) rfl rfl (by simp only [List.map_toArray, List.map_cons, List.map_nil]; rfl) ?_
            with_reducible refine (OC1.out _ X1.out.below).mono ?_
            rintro e x4 ⟨va, rfl, hd, hb⟩
            refine ⟨_, rfl, ?_⟩
            have X2 := Aside0.mk ((X1.out.on hb).set2 (hd.lower X1.out.below.size))
            clear hd hb
            refine hK.out _ _ ⟨X2.out.boxA, X2.out.boxB, X2.out.boxC⟩ (fun hHeld => ?_)
            clear hK K
            refine norm_ (a' := ?_) ?_ ?_
            rotate_left
            · show Act.put _ (some 29) _ = _
              simp only [Act.put, List.setIfInBounds_toArray, List.set_cons_zero, List.set_cons_succ, i64_w, i32_w]
              rfl
            refine two_ (i := 5) (j := 7) (Ni := some 32) (Nj := some 8) #[true, true, true, true, true, true, true, false, false, false] #[true, true, true, true, true, false, true, true, false, false] rfl rfl rfl rfl (by kernel_rfl) (by decide) (by decide) (fun K hK => ?_) (fun K hK => ?_)
            · skip
              refine goes_ Try.func11 (by kernel_rfl) rfl #[.agg #[.slice P0 b.f0.length p0, .slice P1 b.f1.length p1, .string b.f2], .agg #[.slice Q0 c.f0.length q0, .slice Q1 c.f1.length q1, .string c.f2]] (by rfl) rfl rfl (by simp only [List.map_toArray, List.map_cons, List.map_nil]; rfl) ?_
              with_reducible refine (OC2.out _ X2.out.below).mono ?_
              rintro e x5 ⟨vb, rfl, hd, hb⟩
              refine ⟨_, rfl, ?_⟩
              have X3 := Aside0.mk ((X2.out.on hb).set5 (hd.lower X2.out.below.size))
              clear hd hb
              refine hK.out _ _ ⟨X3.out.boxA, X3.out.boxB, X3.out.boxC⟩ (fun hHeld => ?_)
              clear hK K
              refine norm_ (a' := ?_) ?_ ?_
              rotate_left
              · show Act.put _ (some 32) _ = _
                simp only [Act.put, List.setIfInBounds_toArray, List.set_cons_zero, List.set_cons_succ, i64_w, i32_w]
                rfl
              refine one_ (i := 7) (N := some 8) #[true, true, true, true, true, true, true, true, false, false] rfl rfl (by kernel_rfl) (by decide) (fun K hK => ?_)
              refine value_ (w1 := ?_) (v := ?_) (by rfl) rfl ?_ ?_
              rotate_left 2
              · go_simp
                constructor
                · rfl
                · rfl
              have X4 := Aside0.mk (X3.out.alloc7)
              generalize x5.alloc (.cells Try.zeroCells32 32) = x6 at X4 ⊢
              generalize x5.heap.size = k7 at X4 ⊢
              refine hK.out _ _ ⟨X4.out.boxA, X4.out.boxB, X4.out.boxC⟩ (fun hHeld => ?_)
              clear hK K
              refine norm_ (a' := ?_) ?_ ?_
              rotate_left
              · show Act.put _ (some 8) _ = _
                simp only [Act.put, List.setIfInBounds_toArray, List.set_cons_zero, List.set_cons_succ, i64_w, i32_w]
                rfl
              exact norm_ (by simp only [putAll, Act.put, List.setIfInBounds_toArray, List.set_cons_zero, List.set_cons_succ, sz]) (hCont ⟨va, vb, k6, k7⟩ _ X4.out)
            · skip
              refine value_ (w1 := ?_) (v := ?_) (by rfl) rfl ?_ ?_
              rotate_left 2
              · go_simp
                constructor
                · rfl
                · rfl
              have X3 := Aside0.mk (X2.out.alloc7)
              generalize x4.alloc (.cells Try.zeroCells32 32) = x5 at X3 ⊢
              generalize x4.heap.size = k7 at X3 ⊢
              refine hK.out _ _ ⟨X3.out.boxA, X3.out.boxB, X3.out.boxC⟩ (fun hHeld => ?_)
              clear hK K
              refine norm_ (a' := ?_) ?_ ?_
              rotate_left
              · show Act.put _ (some 8) _ = _
                simp only [Act.put, List.setIfInBounds_toArray, List.set_cons_zero, List.set_cons_succ, i64_w, i32_w]
                rfl
              refine one_ (i := 5) (N := some 32) #[true, true, true, true, true, true, true, true, false, false] rfl rfl (by kernel_rfl) (by decide) (fun K hK => ?_)
              refine goes_ Try.func11 (by kernel_rfl) rfl #[.agg #[.slice P0 b.f0.length p0, .slice P1 b.f1.length p1, .string b.f2], .agg #[.slice Q0 c.f0.length q0, .slice Q1 c.f1.length q1, .string c.f2]] (by rfl) rfl rfl (by simp only [List.map_toArray, List.map_cons, List.map_nil]; rfl) ?_
              with_reducible refine (OC2.out _ X3.out.below).mono ?_
              rintro e x6 ⟨vb, rfl, hd, hb⟩
              refine ⟨_, rfl, ?_⟩
              have X4 := Aside0.mk ((X3.out.on hb).set5 (hd.lower X3.out.below.size))
              clear hd hb
              refine hK.out _ _ ⟨X4.out.boxA, X4.out.boxB, X4.out.boxC⟩ (fun hHeld => ?_)
              clear hK K
              refine norm_ (a' := ?_) ?_ ?_
              rotate_left
              · show Act.put _ (some 32) _ = _
                simp only [Act.put, List.setIfInBounds_toArray, List.set_cons_zero, List.set_cons_succ, i64_w, i32_w]
                rfl
              exact norm_ (by simp only [putAll, Act.put, List.setIfInBounds_toArray, List.set_cons_zero, List.set_cons_succ, sz]) (hCont ⟨va, vb, k6, k7⟩ _ X4.out)
          · skip
            refine value_ (w1 := ?_) (v := ?_) (by rfl) rfl ?_ ?_
            rotate_left 2
            · go_simp
              constructor
              · rfl
              · rfl
            have X2 := Aside0.mk (X1.out.alloc7)
            generalize x3.alloc (.cells Try.zeroCells32 32) = x4 at X2 ⊢
            generalize x3.heap.size = k7 at X2 ⊢
            refine hK.out _ _ ⟨X2.out.boxA, X2.out.boxB, X2.out.boxC⟩ (fun hHeld => ?_)
            clear hK K
            refine norm_ (a' := ?_) ?_ ?_
            rotate_left
            · show Act.put _ (some 8) _ = _
              simp only [Act.put, List.setIfInBounds_toArray, List.set_cons_zero, List.set_cons_succ, i64_w, i32_w]
              rfl
            refine one_ (i := 2) (N := some 29) #[true, true, true, true, true, false, true, true, false, false] rfl rfl (by kernel_rfl) (by decide) (fun K hK => ?_)
            refine goes_ Try.func11 (by kernel_rfl) rfl #[.agg #[.slice A0 a.f0.length c0, .slice A1 a.f1.length c1, .string a.f2], .agg #[.slice P0 b.f0.length p0, .slice P1 b.f1.length p1, .string b.f2]] (by rfl) rfl rfl (by simp only [List.map_toArray, List.map_cons, List.map_nil]; rfl) ?_
            with_reducible refine (OC1.out _ X2.out.below).mono ?_
            rintro e x5 ⟨va, rfl, hd, hb⟩
            refine ⟨_, rfl, ?_⟩
            have X3 := Aside0.mk ((X2.out.on hb).set2 (hd.lower X2.out.below.size))
            clear hd hb
            refine hK.out _ _ ⟨X3.out.boxA, X3.out.boxB, X3.out.boxC⟩ (fun hHeld => ?_)
            clear hK K
            refine norm_ (a' := ?_) ?_ ?_
            rotate_left
            · show Act.put _ (some 29) _ = _
              simp only [Act.put, List.setIfInBounds_toArray, List.set_cons_zero, List.set_cons_succ, i64_w, i32_w]
              rfl
            refine one_ (i := 5) (N := some 32) #[true, true, true, true, true, true, true, true, false, false] rfl rfl (by kernel_rfl) (by decide) (fun K hK => ?_)
            refine goes_ Try.func11 (by kernel_rfl) rfl #[.agg #[.slice P0 b.f0.length p0, .slice P1 b.f1.length p1, .string b.f2], .agg #[.slice Q0 c.f0.length q0, .slice Q1 c.f1.length q1, .string c.f2]] (by rfl) rfl rfl (by simp only [List.map_toArray, List.map_cons, List.map_nil]; rfl) ?_
            with_reducible refine (OC2.out _ X3.out.below).mono ?_
            rintro e x6 ⟨vb, rfl, hd, hb⟩
            refine ⟨_, rfl, ?_⟩
            have X4 := Aside0.mk ((X3.out.on hb).set5 (hd.lower X3.out.below.size))
            clear hd hb
            refine hK.out _ _ ⟨X4.out.boxA, X4.out.boxB, X4.out.boxC⟩ (fun hHeld => ?_)
            clear hK K
            refine norm_ (a' := ?_) ?_ ?_
            rotate_left
            · show Act.put _ (some 32) _ = _
              simp only [Act.put, List.setIfInBounds_toArray, List.set_cons_zero, List.set_cons_succ, i64_w, i32_w]
              rfl
            exact norm_ (by simp only [putAll, Act.put, List.setIfInBounds_toArray, List.set_cons_zero, List.set_cons_succ, sz]) (hCont ⟨va, vb, k6, k7⟩ _ X4.out)
        · skip
          refine value_ (w1 := ?_) (v := ?_) (by rfl) rfl ?_ ?_
          rotate_left 2
          · go_simp
            constructor
            · rfl
            · rfl
          have X1 := Aside0.mk (X0.out.alloc7)
          generalize wd.alloc (.cells Try.zeroCells32 32) = x3 at X1 ⊢
          generalize wd.heap.size = k7 at X1 ⊢
          refine hK.out _ _ ⟨X1.out.boxA, X1.out.boxB, X1.out.boxC⟩ (fun hHeld => ?_)
          clear hK K
          refine norm_ (a' := ?_) ?_ ?_
          rotate_left
          · show Act.put _ (some 8) _ = _
            simp only [Act.put, List.setIfInBounds_toArray, List.set_cons_zero, List.set_cons_succ, i64_w, i32_w]
            rfl
          refine two_ (i := 2) (j := 6) (Ni := some 29) (Nj := some 7) #[true, true, true, true, true, false, false, true, false, false] #[true, true, false, true, true, false, true, true, false, false] rfl rfl rfl rfl (by kernel_rfl) (by decide) (by decide) (fun K hK => ?_) (fun K hK => ?_)
          · skip
            refine goes_ Try.func11 (by kernel_rfl) rfl #[.agg #[.slice A0 a.f0.length c0, .slice A1 a.f1.length c1, .string a.f2], .agg #[.slice P0 b.f0.length p0, .slice P1 b.f1.length p1, .string b.f2]] (by rfl) rfl rfl (by simp only [List.map_toArray, List.map_cons, List.map_nil]; rfl) ?_
            with_reducible refine (OC1.out _ X1.out.below).mono ?_
            rintro e x4 ⟨va, rfl, hd, hb⟩
            refine ⟨_, rfl, ?_⟩
            have X2 := Aside0.mk ((X1.out.on hb).set2 (hd.lower X1.out.below.size))
            clear hd hb
            refine hK.out _ _ ⟨X2.out.boxA, X2.out.boxB, X2.out.boxC⟩ (fun hHeld => ?_)
            clear hK K
            refine norm_ (a' := ?_) ?_ ?_
            rotate_left
            · show Act.put _ (some 29) _ = _
              simp only [Act.put, List.setIfInBounds_toArray, List.set_cons_zero, List.set_cons_succ, i64_w, i32_w]
              rfl
            refine two_ (i := 5) (j := 6) (Ni := some 32) (Nj := some 7) #[true, true, true, true, true, true, false, true, false, false] #[true, true, true, true, true, false, true, true, false, false] rfl rfl rfl rfl (by kernel_rfl) (by decide) (by decide) (fun K hK => ?_) (fun K hK => ?_)
            · skip
              refine goes_ Try.func11 (by kernel_rfl) rfl #[.agg #[.slice P0 b.f0.length p0, .slice P1 b.f1.length p1, .string b.f2], .agg #[.slice Q0 c.f0.length q0, .slice Q1 c.f1.length q1, .string c.f2]] (by rfl) rfl rfl (by simp only [List.map_toArray, List.map_cons, List.map_nil]; rfl) ?_
              with_reducible refine (OC2.out _ X2.out.below).mono ?_
              rintro e x5 ⟨vb, rfl, hd, hb⟩
              refine ⟨_, rfl, ?_⟩
              have X3 := Aside0.mk ((X2.out.on hb).set5 (hd.lower X2.out.below.size))
              clear hd hb
              refine hK.out _ _ ⟨X3.out.boxA, X3.out.boxB, X3.out.boxC⟩ (fun hHeld => ?_)
              clear hK K
              refine norm_ (a' := ?_) ?_ ?_
              rotate_left
              · show Act.put _ (some 32) _ = _
                simp only [Act.put, List.setIfInBounds_toArray, List.set_cons_zero, List.set_cons_succ, i64_w, i32_w]
                rfl
              refine one_ (i := 6) (N := some 7) #[true, true, true, true, true, true, true, true, false, false] rfl rfl (by kernel_rfl) (by decide) (fun K hK => ?_)
              refine value_ (w1 := ?_) (v := ?_) (by rfl) rfl ?_ ?_
              rotate_left 2
              · go_simp
                constructor
                · rfl
                · rfl
              have X4 := Aside0.mk (X3.out.alloc6)
              generalize x5.alloc (.cells Try.zeroCells32 32) = x6 at X4 ⊢
              generalize x5.heap.size = k6 at X4 ⊢
              refine hK.out _ _ ⟨X4.out.boxA, X4.out.boxB, X4.out.boxC⟩ (fun hHeld => ?_)
              clear hK K
              refine norm_ (a' := ?_) ?_ ?_
              rotate_left
              · show Act.put _ (some 7) _ = _
                simp only [Act.put, List.setIfInBounds_toArray, List.set_cons_zero, List.set_cons_succ, i64_w, i32_w]
                rfl
              exact norm_ (by simp only [putAll, Act.put, List.setIfInBounds_toArray, List.set_cons_zero, List.set_cons_succ, sz]) (hCont ⟨va, vb, k6, k7⟩ _ X4.out)
            · skip
              refine value_ (w1 := ?_) (v := ?_) (by rfl) rfl ?_ ?_
              rotate_left 2
              · go_simp
                constructor
                · rfl
                · rfl
              have X3 := Aside0.mk (X2.out.alloc6)
              generalize x4.alloc (.cells Try.zeroCells32 32) = x5 at X3 ⊢
              generalize x4.heap.size = k6 at X3 ⊢
              refine hK.out _ _ ⟨X3.out.boxA, X3.out.boxB, X3.out.boxC⟩ (fun hHeld => ?_)
              clear hK K
              refine norm_ (a' := ?_) ?_ ?_
              rotate_left
              · show Act.put _ (some 7) _ = _
                simp only [Act.put, List.setIfInBounds_toArray, List.set_cons_zero, List.set_cons_succ, i64_w, i32_w]
                rfl
              refine one_ (i := 5) (N := some 32) #[true, true, true, true, true, true, true, true, false, false] rfl rfl (by kernel_rfl) (by decide) (fun K hK => ?_)
              refine goes_ Try.func11 (by kernel_rfl) rfl #[.agg #[.slice P0 b.f0.length p0, .slice P1 b.f1.length p1, .string b.f2], .agg #[.slice Q0 c.f0.length q0, .slice Q1 c.f1.length q1, .string c.f2]] (by rfl) rfl rfl (by simp only [List.map_toArray, List.map_cons, List.map_nil]; rfl) ?_
              with_reducible refine (OC2.out _ X3.out.below).mono ?_
              rintro e x6 ⟨vb, rfl, hd, hb⟩
              refine ⟨_, rfl, ?_⟩
              have X4 := Aside0.mk ((X3.out.on hb).set5 (hd.lower X3.out.below.size))
              clear hd hb
              refine hK.out _ _ ⟨X4.out.boxA, X4.out.boxB, X4.out.boxC⟩ (fun hHeld => ?_)
              clear hK K
              refine norm_ (a' := ?_) ?_ ?_
              rotate_left
              · show Act.put _ (some 32) _ = _
                simp only [Act.put, List.setIfInBounds_toArray, List.set_cons_zero, List.set_cons_succ, i64_w, i32_w]
                rfl
              exact norm_ (by simp only [putAll, Act.put, List.setIfInBounds_toArray, List.set_cons_zero, List.set_cons_succ, sz]) (hCont ⟨va, vb, k6, k7⟩ _ X4.out)
          · skip
            refine value_ (w1 := ?_) (v := ?_) (by rfl) rfl ?_ ?_
            rotate_left 2
            · go_simp
              constructor
              · rfl
              · rfl
            have X2 := Aside0.mk (X1.out.alloc6)
            generalize x3.alloc (.cells Try.zeroCells32 32) = x4 at X2 ⊢
            generalize x3.heap.size = k6 at X2 ⊢
            refine hK.out _ _ ⟨X2.out.boxA, X2.out.boxB, X2.out.boxC⟩ (fun hHeld => ?_)
            clear hK K
            refine norm_ (a' := ?_) ?_ ?_
            rotate_left
            · show Act.put _ (some 7) _ = _
              simp only [Act.put, List.setIfInBounds_toArray, List.set_cons_zero, List.set_cons_succ, i64_w, i32_w]
              rfl
            refine one_ (i := 2) (N := some 29) #[true, true, true, true, true, false, true, true, false, false] rfl rfl (by kernel_rfl) (by decide) (fun K hK => ?_)
            refine goes_ Try.func11 (by kernel_rfl) rfl #[.agg #[.slice A0 a.f0.length c0, .slice A1 a.f1.length c1, .string a.f2], .agg #[.slice P0 b.f0.length p0, .slice P1 b.f1.length p1, .string b.f2]] (by rfl) rfl rfl (by simp only [List.map_toArray, List.map_cons, List.map_nil]; rfl) ?_
            with_reducible refine (OC1.out _ X2.out.below).mono ?_
            rintro e x5 ⟨va, rfl, hd, hb⟩
            refine ⟨_, rfl, ?_⟩
            have X3 := Aside0.mk ((X2.out.on hb).set2 (hd.lower X2.out.below.size))
            clear hd hb
            refine hK.out _ _ ⟨X3.out.boxA, X3.out.boxB, X3.out.boxC⟩ (fun hHeld => ?_)
            clear hK K
            refine norm_ (a' := ?_) ?_ ?_
            rotate_left
            · show Act.put _ (some 29) _ = _
              simp only [Act.put, List.setIfInBounds_toArray, List.set_cons_zero, List.set_cons_succ, i64_w, i32_w]
              rfl
            refine one_ (i := 5) (N := some 32) #[true, true, true, true, true, true, true, true, false, false] rfl rfl (by kernel_rfl) (by decide) (fun K hK => ?_)
            refine goes_ Try.func11 (by kernel_rfl) rfl #[.agg #[.slice P0 b.f0.length p0, .slice P1 b.f1.length p1, .string b.f2], .agg #[.slice Q0 c.f0.length q0, .slice Q1 c.f1.length q1, .string c.f2]] (by rfl) rfl rfl (by simp only [List.map_toArray, List.map_cons, List.map_nil]; rfl) ?_
            with_reducible refine (OC2.out _ X3.out.below).mono ?_
            rintro e x6 ⟨vb, rfl, hd, hb⟩
            refine ⟨_, rfl, ?_⟩
            have X4 := Aside0.mk ((X3.out.on hb).set5 (hd.lower X3.out.below.size))
            clear hd hb
            refine hK.out _ _ ⟨X4.out.boxA, X4.out.boxB, X4.out.boxC⟩ (fun hHeld => ?_)
            clear hK K
            refine norm_ (a' := ?_) ?_ ?_
            rotate_left
            · show Act.put _ (some 32) _ = _
              simp only [Act.put, List.setIfInBounds_toArray, List.set_cons_zero, List.set_cons_succ, i64_w, i32_w]
              rfl
            exact norm_ (by simp only [putAll, Act.put, List.setIfInBounds_toArray, List.set_cons_zero, List.set_cons_succ, sz]) (hCont ⟨va, vb, k6, k7⟩ _ X4.out)
      rintro ⟨v2_, v5_, g6, g7⟩ x9 hX
      replace hX : JX w5 x9 w.heap.size (w.heap.size + 1) (w.heap.size + 1 + 1) #[.slice A0 a.f0.length c0, .slice A1 a.f1.length c1, .string a.f2] #[.slice P0 b.f0.length p0, .slice P1 b.f1.length p1, .string b.f2] #[.slice Q0 c.f0.length q0, .slice Q1 c.f1.length q1, .string c.f2] L r1 r2 b.f2 M P n1 n2 c.f2 Q (some v2_) (some v5_) (some g6) (some g7) := hX
      have hHeld : Blk x9 w.heap.size 24 #[.slice A0 a.f0.length c0, .slice A1 a.f1.length c1, .string a.f2] ∧ Blk x9 (w.heap.size + 1) 24 #[.slice P0 b.f0.length p0, .slice P1 b.f1.length p1, .string b.f2] ∧ Blk x9 (w.heap.size + 1 + 1) 24 #[.slice Q0 c.f0.length q0, .slice Q1 c.f1.length q1, .string c.f2] := ⟨hX.boxA, hX.boxB, hX.boxC⟩
      obtain ⟨U1, u1, U2, u2, ev2, C21, C22⟩ := hX.d2 _ rfl
      obtain ⟨V1, v1, V2, v2, ev5, C51, C52⟩ := hX.d5 _ rfl
      subst ev2 ev5
      refine norm_ (a' := ?_) ?_ ?_
      rotate_left
      · simp only [putAll, Act.put, List.setIfInBounds_toArray, List.set_cons_zero, List.set_cons_succ]
        rfl
      refine last_ (i := 8) (N := none) #[true, true, true, true, true, true, true, true, true, false] rfl rfl (by kernel_rfl) (by decide) (fun K hK => ?_)
      refine skip_ (w1 := x9.setRow g6 (dArr L (.slice U1 r1.length u1) (.slice U2 r2.length u2) b.f2 M)) (by rfl) rfl ?_ ?_
      · exact row_stores 32 (.tmp 7) (.tmp 29) rfl g6 _ rfl rfl (hX.a6 _ rfl).1 (by rw [dArr_size hL.out.len hM.out.len]; kernel_rfl) (by rw [dArr_size hL.out.len hM.out.len, dArr_size (outL_len _ _) (outL_len _ _)]) (dArr_one _ _ _ _ _ _ _ _ _)
      refine hK.out _ _ ?_
      clear hK K
      refine last_ (i := 9) (N := none) #[true, true, true, true, true, true, true, true, true, true] rfl rfl (by kernel_rfl) (by decide) (fun K hK => ?_)
      refine skip_ (w1 := (x9.setRow g6 (dArr L (.slice U1 r1.length u1) (.slice U2 r2.length u2) b.f2 M)).setRow g7 (dArr P (.slice V1 n1.length v1) (.slice V2 n2.length v2) c.f2 Q)) (by rfl) rfl ?_ ?_
      · exact row_stores 32 (.tmp 8) (.tmp 32) rfl g7 _ rfl rfl ((hX.a7 _ rfl).1.setRow_far (hX.ne _ _ rfl rfl).symm _) (by rw [dArr_size hP.out.len hQ.out.len]; kernel_rfl) (by rw [dArr_size hP.out.len hQ.out.len, dArr_size (outL_len _ _) (outL_len _ _)]) (dArr_one _ _ _ _ _ _ _ _ _)
      refine hK.out _ _ ?_
      clear hK K
      refine done_ (by kernel_rfl) ?_

      clear hHeld
      have lo := hX.lo
      have l6 := (hX.a6 _ rfl).2
      have l7 := (hX.a7 _ rfl).2
      have Bd := ((hX.a6 _ rfl).1.setRow_ (dArr L (.slice U1 r1.length u1) (.slice U2 r2.length u2) b.f2 M)).setRow_far (k := g7) (hX.ne _ _ rfl rfl) (dArr P (.slice V1 n1.length v1) (.slice V2 n2.length v2) c.f2 Q)
      have Be := ((hX.a7 _ rfl).1.setRow_far (k := g6) (hX.ne _ _ rfl rfl).symm (dArr L (.slice U1 r1.length u1) (.slice U2 r2.length u2) b.f2 M)).setRow_ (dArr P (.slice V1 n1.length v1) (.slice V2 n2.length v2) c.f2 Q)
      have BA6 := (hX.boxA.setRow_far (k := g6) (by omega) (dArr L (.slice U1 r1.length u1) (.slice U2 r2.length u2) b.f2 M)).setRow_far (k := g7) (by omega) (dArr P (.slice V1 n1.length v1) (.slice V2 n2.length v2) c.f2 Q)
      have BB6 := (hX.boxB.setRow_far (k := g6) (by omega) (dArr L (.slice U1 r1.length u1) (.slice U2 r2.length u2) b.f2 M)).setRow_far (k := g7) (by omega) (dArr P (.slice V1 n1.length v1) (.slice V2 n2.length v2) c.f2 Q)
      have BC6 := (hX.boxC.setRow_far (k := g6) (by omega) (dArr L (.slice U1 r1.length u1) (.slice U2 r2.length u2) b.f2 M)).setRow_far (k := g7) (by omega) (dArr P (.slice V1 n1.length v1) (.slice V2 n2.length v2) c.f2 Q)
      have S7 := (hX.a7 _ rfl).1.setRow_far (k := g6) (hX.ne _ _ rfl rfl).symm (dArr L (.slice U1 r1.length u1) (.slice U2 r2.length u2) b.f2 M)
      have R21 := R_setRowT (R_setRowT C21 (hX.a6 _ rfl).1 (by decide) (dArr L (.slice U1 r1.length u1) (.slice U2 r2.length u2) b.f2 M)) S7 (by decide) (dArr P (.slice V1 n1.length v1) (.slice V2 n2.length v2) c.f2 Q)
      have R22 := R_setRowT (R_setRowT C22 (hX.a6 _ rfl).1 (by decide) (dArr L (.slice U1 r1.length u1) (.slice U2 r2.length u2) b.f2 M)) S7 (by decide) (dArr P (.slice V1 n1.length v1) (.slice V2 n2.length v2) c.f2 Q)
      have R51 := R_setRowT (R_setRowT C51 (hX.a6 _ rfl).1 (by decide) (dArr L (.slice U1 r1.length u1) (.slice U2 r2.length u2) b.f2 M)) S7 (by decide) (dArr P (.slice V1 n1.length v1) (.slice V2 n2.length v2) c.f2 Q)
      have R52 := R_setRowT (R_setRowT C52 (hX.a6 _ rfl).1 (by decide) (dArr L (.slice U1 r1.length u1) (.slice U2 r2.length u2) b.f2 M)) S7 (by decide) (dArr P (.slice V1 n1.length v1) (.slice V2 n2.length v2) c.f2 Q)
      have W6 := below_then W5.out W5.out.size (below_setRow' (below_setRow' hX.below l6 (dArr L (.slice U1 r1.length u1) (.slice U2 r2.length u2) b.f2 M)) l7 (dArr P (.slice V1 n1.length v1) (.slice V2 n2.length v2) c.f2 Q))
      generalize (x9.setRow g6 (dArr L (.slice U1 r1.length u1) (.slice U2 r2.length u2) b.f2 M)).setRow g7 (dArr P (.slice V1 n1.length v1) (.slice V2 n2.length v2) c.f2 Q) = w6 at Bd Be BA6 BB6 BC6 R21 R22 R51 R52 W6 ⊢
      have Bd := Aside0.mk Bd
      have Be := Aside0.mk Be
      have BA6 := Aside0.mk BA6
      have BB6 := Aside0.mk BB6
      have BC6 := Aside0.mk BC6
      have W6 := Aside0.mk W6
      have JCW := Aside0.mk (JC.out U1 u1 U2 u2 V1 v1 V2 v2 w6 (Kd.R_C R21) (Kd.R_cap R21) (Kd.R_C R22) (Kd.R_cap R22) (Kd.R_C R51) (Kd.R_cap R51) (Kd.R_C R52) (Kd.R_cap R52))
      clear hX S7 C21 C22 C51 C52 R21 R22 R51 R52 JC OC1 OC2 lo l6 l7 BA5 BB5 BC5 W5
      go_wp2_with (first | (refine wpList_load_midg (by rfl) 32 (.tmp 7) rfl g6 0 rfl _ (loadAt_row Bd.out Try.underlying32 rfl (by rw [dArr_size hL.out.len hM.out.len]; kernel_rfl)) ?_) | (refine wpList_load_midg (by rfl) 32 (.tmp 8) rfl g7 0 rfl _ (loadAt_row Be.out Try.underlying32 rfl (by rw [dArr_size hP.out.len hQ.out.len]; kernel_rfl)) ?_) | ((with_reducible refine JCW.out.mono ?_); rintro e w7 ⟨T1, t1, T2, t2, rfl, hR1, hR2, hb⟩; have R17 := Aside0.mk hR1; have R27 := Aside0.mk hR2; have BA7 := Aside0.mk (BA6.out.below hb BA6.out.lt); have BB7 := Aside0.mk (BB6.out.below hb BB6.out.lt); have BC7 := Aside0.mk (BC6.out.below hb BC6.out.lt); have W7 := Aside0.mk (below_then W6.out W6.out.size hb); have D7 := Aside0.mk (Blk.new w7 32 Try.zeroCells32); clear hR1 hR2 hb) | (refine wpList_store_row rfl 32 (.tmp 9) (.tmp 37) rfl w7.heap.size _ rfl rfl 32 _ D7.out (by rw [dArr_size hJ.out.len hQ.out.len]; kernel_rfl) (by rw [dArr_size hJ.out.len hQ.out.len]; kernel_rfl) (dArr_one _ _ _ _ _ _ _ _ _) ?_; have BA8 := Aside0.mk ((BA7.out.alloc (.cells Try.zeroCells32 32)).setRow_far (k := w7.heap.size) (by have := BA7.out.lt; omega) (dArr J (.slice T1 j1.length t1) (.slice T2 j2.length t2) c.f2 Q)); have BB8 := Aside0.mk ((BB7.out.alloc (.cells Try.zeroCells32 32)).setRow_far (k := w7.heap.size) (by have := BB7.out.lt; omega) (dArr J (.slice T1 j1.length t1) (.slice T2 j2.length t2) c.f2 Q)); have BC8 := Aside0.mk ((BC7.out.alloc (.cells Try.zeroCells32 32)).setRow_far (k := w7.heap.size) (by have := BC7.out.lt; omega) (dArr J (.slice T1 j1.length t1) (.slice T2 j2.length t2) c.f2 Q)); have E8 := Aside0.mk (D7.out.setRow_ (dArr J (.slice T1 j1.length t1) (.slice T2 j2.length t2) c.f2 Q)); have R18 := Aside0.mk (R_setRowT (Kd.R_alloc R17.out (.cells Try.zeroCells32 32)) D7.out (by decide) (dArr J (.slice T1 j1.length t1) (.slice T2 j2.length t2) c.f2 Q)); have R28 := Aside0.mk (R_setRowT (Kd.R_alloc R27.out (.cells Try.zeroCells32 32)) D7.out (by decide) (dArr J (.slice T1 j1.length t1) (.slice T2 j2.length t2) c.f2 Q)); have W8 := Aside0.mk (below_setRow' (W7.out.alloc W7.out.size (.cells Try.zeroCells32 32)) W7.out.size (dArr J (.slice T1 j1.length t1) (.slice T2 j2.length t2) c.f2 Q)); generalize (w7.alloc (.cells Try.zeroCells32 32)).setRow w7.heap.size (dArr J (.slice T1 j1.length t1) (.slice T2 j2.length t2) c.f2 Q) = w8 at BA8 BB8 BC8 E8 R18 R28 W8 ⊢; generalize w7.heap.size = g at E8 ⊢; clear D7) | (refine wpList_load_midg (by rfl) 24 (.tmp 3) rfl w.heap.size 0 rfl _ (loadAt_row BA8.out Try.underlying24 rfl (by kernel_rfl)) ?_) | (refine wpList_load_midg (by rfl) 32 (.tmp 9) rfl g 0 rfl _ (loadAt_row E8.out Try.underlying32 rfl (by rw [dArr_size hJ.out.len hQ.out.len]; kernel_rfl)) ?_) | ((with_reducible refine (apply_ok 17592186044416 c.f0 c.f1 y J Q hJ.out hQ.out A0 c0 A1 c1 a T1 t1 j1 T2 t2 j2 c.f2 _ (Kd.C_below hA0 W8.out) ha0 (Kd.C_below hA1 W8.out) ha1 hLa (Kd.R_C R18.out) (Kd.R_cap R18.out) (Kd.R_C R28.out) (Kd.R_cap R28.out) HCASE.out hd0 hd1 HSU.out hLc).mono ?_); rintro e w9 ⟨Y0, d0, Y1, d1, rfl, kk0, mm0, kk1, mm1, hb⟩; have BC9 := Aside0.mk (BC8.out.below hb BC8.out.lt); have W9 := Aside0.mk (below_then W8.out W8.out.size hb); have k0 := Aside0.mk (Kd.C_below kk0 ((Below.refl w9.heap.size w9).alloc (Nat.le_refl _) (.cells #[.slice Y0 c.f0.length d0, .slice Y1 c.f1.length d1, .string c.f2] 24))); have k1 := Aside0.mk (Kd.C_below kk1 ((Below.refl w9.heap.size w9).alloc (Nat.le_refl _) (.cells #[.slice Y0 c.f0.length d0, .slice Y1 c.f1.length d1, .string c.f2] 24))); have m0 := Aside0.mk mm0; have m1 := Aside0.mk mm1; have BG10 := Aside0.mk (Blk.new w9 24 #[.slice Y0 c.f0.length d0, .slice Y1 c.f1.length d1, .string c.f2]); have BC10 := Aside0.mk (BC9.out.alloc (.cells #[.slice Y0 c.f0.length d0, .slice Y1 c.f1.length d1, .string c.f2] 24)); have W10 := Aside0.mk (W9.out.alloc W9.out.size (.cells #[.slice Y0 c.f0.length d0, .slice Y1 c.f1.length d1, .string c.f2] 24)); clear hb kk0 kk1 mm0 mm1) | ((with_reducible refine (fixed_calls _).mono ?_); rintro e wf ⟨rfl, hb⟩; have BG11 := Aside0.mk (BG10.out.below hb BG10.out.lt); have BC11 := Aside0.mk (BC10.out.below hb BC10.out.lt); have W11 := Aside0.mk (below_then W10.out W10.out.size hb); have WGF := Aside0.mk hb; clear hb) | (refine wpList_load_midg (by rfl) 24 (.tmp 11) rfl w9.heap.size 0 rfl _ (loadAt_row BG11.out Try.underlying24 rfl (by kernel_rfl)) ?_) | (refine wpList_load_midg (by rfl) 24 (.tmp 5) rfl (w.heap.size + 1 + 1) 0 rfl _ (loadAt_row BC11.out Try.underlying24 rfl (by kernel_rfl)) ?_))
      refine (hibernacleref35_Images.calls 5864062014806 Y0 d0 c.f0 Y1 d1 c.f1 c.f2 Q0 q0 c.f0 Q1 q1 c.f1 c.f2 true wf (Kd.C_below k0.out WGF.out) m0.out (Kd.C_below k1.out WGF.out) m1.out (Kd.C_below hQ0 W11.out) hq0 (Kd.C_below hQ1 W11.out) hq1 hi2).mono ?_
      rintro e wz ⟨rfl, hb⟩
      have WZ := below_then W11.out W11.out.size hb
      clear hb
      go_wp2_with fail
      go_ret
      exact ⟨rfl, WZ⟩
end Go.Proofs.Ytoljjgabgdifbaa.H

