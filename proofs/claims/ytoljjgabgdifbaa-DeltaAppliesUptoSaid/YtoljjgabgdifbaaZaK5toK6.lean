/- Layer 35's statement DeltaApplies: the walk. Layer 35: a delta that came in, opened; what the bulk of the input bounds. -/
import Derived.Test.YtoljjgabgdifbaaZaK2
import Derived.Test.YtoljjgabgdifbaaZaK3toT6
import Derived.Test.YtoljjgabgdifbaaZaJ2toJ6
import Derived.Deep.SlicePairs

namespace Go.Proofs.Ytoljjgabgdifbaa.H
open Go.RowKit Go.Proofs.YtoljjgabgdifbaaW.PrintWords Go.Proofs.YtoljjgabgdifbaaW.PrintLast Go.Proofs.YtoljjgabgdifbaaW.PrintMore
set_option linter.unusedVariables false
set_option linter.unusedSimpArgs false
theorem tot_wt : ∀ l : List ByteArray, tot l ≤ wt l
  | [] => Nat.le_refl _
  | s :: l => by
    have := tot_wt l
    simp only [wt, tot]
    omega

theorem imgs1 {w : World} {g : Nat} (A0 : Option Addr) (c0 : Nat) (A1 : Option Addr) (c1 : Nat) (a : S24) (hA0 : Kd.C Kd.string w A0 a.f0.length a.f0) (ha0 : a.f0.length ≤ c0) (hA1 : Kd.C Kd.string w A1 a.f1.length a.f1) (ha1 : a.f1.length ≤ c1)
    (h : Blk w g 24 #[.slice A0 a.f0.length c0, .slice A1 a.f1.length c1, .string a.f2]) : Kd.C k24 w (some ⟨g, 0, none⟩) [a].length [a] := by
  refine ⟨rfl, by simp, fun _ => ⟨_, rfl, fun j p hp => ?_⟩⟩
  match j, hp with
  | 0, hp =>
    obtain rfl : a = p := by simpa using hp
    refine ⟨[.slice A0 a.f0.length c0, .slice A1 a.f1.length c1, .string a.f2], rfl, k24_mk w a ha0 hA0 ha1 hA1, fun i u hu => ?_⟩
    rw [add_plain, h.cell]
    match i, hu with
    | 0, hu => exact hu
    | 1, hu => exact hu
    | 2, hu => exact hu
    | i + 3, hu => simp at hu
  | j + 1, hp => simp at hp
theorem tot_append : ∀ l m : List ByteArray, tot (l ++ m) = tot l + tot m
  | [], m => by simp [tot]
  | x :: l, m => by
    have := tot_append l m
    simp only [List.cons_append, tot]
    omega
theorem tot_set (v : ByteArray) : ∀ (l : List ByteArray) (n : Nat), tot (l.set n v) ≤ tot l + v.size
  | [], n => by simp [tot]
  | x :: l, 0 => by simp only [List.set_cons_zero, tot]; omega
  | x :: l, n + 1 => by
    have := tot_set v l n
    simp only [List.set_cons_succ, tot]
    omega
theorem doneP_tot : ∀ (l : List S36) (out r : List ByteArray), doneP out l = some r → tot r ≤ tot out + ww l
  | [], out, r, h => by
    rw [doneP] at h
    obtain rfl := Option.some.inj h
    exact Nat.le_add_right _ _
  | x :: l, out, r, h => by
    rw [doneP] at h
    split at h
    · cases h
    · split at h
      · have := doneP_tot l _ r h
        rw [tot_append] at this
        simp only [ww, tot] at this ⊢
        omega
      · have := doneP_tot l _ r h
        have h2 := tot_set x.f1 out x.f0.toNat
        simp only [ww]
        omega
/-- What comes of a delta done: for the program and for the document the same. -/
theorem apply_any (L M : List Int) (hL : Dig L) (hM : Dig M) (A0 : Option Addr) (c0 : Nat) (A1 : Option Addr) (c1 : Nat) (a : S24) (U1 : Option Addr) (u1 : Nat) (r1 : List S36) (U2 : Option Addr) (u2 : Nat) (r2 : List S36) (s : ByteArray) (w : World)
    (hA0 : Kd.C Kd.string w A0 a.f0.length a.f0) (ha0 : a.f0.length ≤ c0) (hA1 : Kd.C Kd.string w A1 a.f1.length a.f1) (ha1 : a.f1.length ≤ c1)
    (hU1 : Kd.C k36 w U1 r1.length r1) (hu1 : r1.length ≤ u1) (hU2 : Kd.C k36 w U2 r2.length r2) (hu2 : r2.length ≤ u2)
    (hta : tot a.f0 + tot a.f1 + a.f2.size ≤ 100000) (htd : s.size + ww r1 + ww r2 ≤ 100000) :
    ∃ (y : S24) (ec : Int), y.f0.length ≤ 1000000 ∧ y.f1.length ≤ 1000000 ∧ ∀ W, Below w.heap.size w W →
      (Calls Try.prog 15 #[.agg #[.slice A0 a.f0.length c0, .slice A1 a.f1.length c1, .string a.f2], .agg (dArr L (.slice U1 r1.length u1) (.slice U2 r2.length u2) s M)] W fun e w' => ∃ Y0 d0 Y1 d1, e = .returned (.tuple #[.agg #[.slice Y0 y.f0.length d0, .slice Y1 y.f1.length d1, .string y.f2], .int .i64 ec]) ∧ Kd.C Kd.string w' Y0 y.f0.length y.f0 ∧ y.f0.length ≤ d0 ∧ Kd.C Kd.string w' Y1 y.f1.length y.f1 ∧ y.f1.length ≤ d1 ∧ Below W.heap.size W w') ∧
      (Calls Try.prog 18 #[.agg #[.slice A0 a.f0.length c0, .slice A1 a.f1.length c1, .string a.f2], .agg (dArr L (.slice U1 r1.length u1) (.slice U2 r2.length u2) s M)] W fun e w' => ∃ Y0 d0 Y1 d1, e = .returned (.tuple #[.agg #[.slice Y0 y.f0.length d0, .slice Y1 y.f1.length d1, .string y.f2], .int .i64 ec]) ∧ Kd.C Kd.string w' Y0 y.f0.length y.f0 ∧ y.f0.length ≤ d0 ∧ Kd.C Kd.string w' Y1 y.f1.length y.f1 ∧ y.f1.length ≤ d1 ∧ Below W.heap.size W w') := by
  have t0 := tot_len a.f0
  have t1 := tot_len a.f1
  have n1 := ww_len r1
  have n2 := ww_len r2
  have hLa : (imageL a.f0 a.f1 a.f2).length ≤ 140737488355328 := by have := imageL_le a.f0 a.f1 a.f2; omega
  by_cases hd : imgSum a.f0 a.f1 a.f2 ≠ L ∧ emptySum ≠ L
  · refine ⟨noth, 23, by decide, by decide, fun W hW => ⟨?_, ?_⟩⟩
    · refine (apply_diff L M hL hM A0 c0 A1 c1 a U1 u1 r1 U2 u2 r2 s W (Kd.C_below hA0 hW) ha0 (Kd.C_below hA1 hW) ha1 hLa hd.1 hd.2).mono ?_
      rintro e w' ⟨rfl, hb⟩
      exact ⟨none, 0, none, 0, rfl, Kd.C_nil _ _, Nat.le_refl _, Kd.C_nil _ _, Nat.le_refl _, hb⟩
    · refine (rapply_diff L M hL hM A0 c0 A1 c1 a U1 u1 r1 U2 u2 r2 s W (Kd.C_below hA0 hW) ha0 (Kd.C_below hA1 hW) ha1 ⟨by omega, by omega⟩ hLa hd.1 hd.2).mono ?_
      rintro e w' ⟨rfl, hb⟩
      exact ⟨none, 0, none, 0, rfl, Kd.C_nil _ _, Nat.le_refl _, Kd.C_nil _ _, Nat.le_refl _, hb⟩
  · obtain ⟨x, hcase, htx⟩ : ∃ x : S24, (imgSum a.f0 a.f1 a.f2 = L ∧ x = a ∨ imgSum a.f0 a.f1 a.f2 ≠ L ∧ emptySum = L ∧ x = ⟨[], [], ⟨#[]⟩⟩) ∧ tot x.f0 ≤ 100000 ∧ tot x.f1 ≤ 100000 := by
      by_cases h1 : imgSum a.f0 a.f1 a.f2 = L
      · exact ⟨a, Or.inl ⟨h1, rfl⟩, by omega, by omega⟩
      · refine ⟨⟨[], [], ⟨#[]⟩⟩, Or.inr ⟨h1, ?_, rfl⟩, by simp [tot], by simp [tot]⟩
        exact Classical.byContradiction fun h2 => hd ⟨h1, h2⟩
    have x0 := tot_len x.f0
    have x1 := tot_len x.f1
    have hd0 := delta_f (x := x.f0) (l := r1) (k := 1000002) (by omega) (by omega) (by omega)
    have hd1 := delta_f (x := x.f1) (l := r2) (k := 1000002) (by omega) (by omega) (by omega)
    have hr0 := refdone_f (x := x.f0) (l := r1) (k := 1000002) (by omega) (by omega) (by omega)
    have hr1 := refdone_f (x := x.f1) (l := r2) (k := 1000002) (by omega) (by omega) (by omega)
    have hb0 : ∀ y0, doneP x.f0 r1 = some y0 → tot y0 ≤ 200000 := fun y0 h => by have := doneP_tot r1 _ _ h; omega
    have hb1 : ∀ y1, doneP x.f1 r2 = some y1 → tot y1 ≤ 200000 := fun y1 h => by have := doneP_tot r2 _ _ h; omega
    have hly : ∀ y0 y1, doneP x.f0 r1 = some y0 → doneP x.f1 r2 = some y1 → (imageL y0 y1 s).length ≤ 140737488355328 := fun y0 y1 e0 e1 => by
      have := imageL_le y0 y1 s
      have := hb0 y0 e0
      have := hb1 y1 e1
      omega
    have hmy : ∀ y0 y1, doneP x.f0 r1 = some y0 → doneP x.f1 r2 = some y1 → y0.length ≤ 5864062014805 ∧ y1.length ≤ 5864062014805 := fun y0 y1 e0 e1 => by
      have := hb0 y0 e0
      have := hb1 y1 e1
      have := tot_len y0
      have := tot_len y1
      omega
    have hlen : (outA (doneP x.f0 r1) (doneP x.f1 r2) s M).1.f0.length ≤ 1000000 ∧ (outA (doneP x.f0 r1) (doneP x.f1 r2) s M).1.f1.length ≤ 1000000 := by
      cases e0 : doneP x.f0 r1 with
      | none => exact ⟨Nat.zero_le _, Nat.zero_le _⟩
      | some y0 =>
        cases e1 : doneP x.f1 r2 with
        | none => exact ⟨Nat.zero_le _, Nat.zero_le _⟩
        | some y1 =>
          have := hb0 y0 e0
          have := hb1 y1 e1
          have := tot_len y0
          have := tot_len y1
          show (if imgSum y0 y1 s = M then ((⟨y0, y1, s⟩, 0) : S24 × Int) else (noth, 23)).1.f0.length ≤ _ ∧ (if imgSum y0 y1 s = M then ((⟨y0, y1, s⟩, 0) : S24 × Int) else (noth, 23)).1.f1.length ≤ _
          split
          · exact ⟨show y0.length ≤ _ by omega, show y1.length ≤ _ by omega⟩
          · exact ⟨Nat.zero_le _, Nat.zero_le _⟩
    refine ⟨(outA (doneP x.f0 r1) (doneP x.f1 r2) s M).1, (outA (doneP x.f0 r1) (doneP x.f1 r2) s M).2, hlen.1, hlen.2, fun W hW => ⟨?_, ?_⟩⟩
    · refine (apply_all 1000002 (doneP x.f0 r1) (doneP x.f1 r2) x L M hL hM A0 c0 A1 c1 a U1 u1 r1 U2 u2 r2 s W (Kd.C_below hA0 hW) ha0 (Kd.C_below hA1 hW) ha1 hLa (Kd.C_below hU1 hW) hu1 (Kd.C_below hU2 hW) hu2 hcase hd0 hd1 hly).mono ?_
      rintro e w' ⟨y, ec, Y0, d0, Y1, d1, ho, rfl, h0, l0, h1, l1, hb⟩
      rw [show outA (doneP x.f0 r1) (doneP x.f1 r2) s M = (y, ec) from ho]
      exact ⟨Y0, d0, Y1, d1, rfl, h0, l0, h1, l1, hb⟩
    · refine (rapply_all 1000002 (doneP x.f0 r1) (doneP x.f1 r2) x L M hL hM A0 c0 A1 c1 a U1 u1 r1 U2 u2 r2 s W (Kd.C_below hA0 hW) ha0 (Kd.C_below hA1 hW) ha1 ⟨by omega, by omega⟩ hLa (Kd.C_below hU1 hW) hu1 (Kd.C_below hU2 hW) hu2 hcase hr0 hr1 hmy hly).mono ?_
      rintro e w' ⟨y, ec, Y0, d0, Y1, d1, ho, rfl, h0, l0, h1, l1, hb⟩
      rw [show outA (doneP x.f0 r1) (doneP x.f1 r2) s M = (y, ec) from ho]
      exact ⟨Y0, d0, Y1, d1, rfl, h0, l0, h1, l1, hb⟩
theorem rd_all {l : List S36} (h : ∀ x ∈ l, (Lit.int .i64 x.f0).wf = true) (j : Nat) : (Lit.int .i64 (rd_T36 l (j : Int)).f0).wf = true := by
  by_cases hj : j < l.length
  · exact h _ (rd_mem hj)
  · have e : rd_T36 l (j : Int) = z36 := by
      unfold rd_T36
      rw [Int.toNat_natCast, List.getD_eq_getElem?_getD, List.getElem?_eq_none (by omega), Option.getD_none]
    rw [e]
    decide

set_option maxRecDepth 100000 in
set_option maxHeartbeats 8000000 in
theorem applies_calls (L M P Q : List Int) (hL : Dig L) (hM : Dig M) (hP : Dig P) (hQ : Dig Q) (A0 : Option Addr) (c0 : Nat) (A1 : Option Addr) (c1 : Nat) (a : S24) (U1 : Option Addr) (u1 : Nat) (r1 : List S36) (U2 : Option Addr) (u2 : Nat) (r2 : List S36) (s : ByteArray) (V1 : Option Addr) (v1 : Nat) (q1 : List S36) (V2 : Option Addr) (v2 : Nat) (q2 : List S36) (z : ByteArray) (w : World)
    (hA0 : Kd.C Kd.string w A0 a.f0.length a.f0) (ha0 : a.f0.length ≤ c0) (hA1 : Kd.C Kd.string w A1 a.f1.length a.f1) (ha1 : a.f1.length ≤ c1)
    (hU1 : Kd.C k36 w U1 r1.length r1) (hu1 : r1.length ≤ u1) (hU2 : Kd.C k36 w U2 r2.length r2) (hu2 : r2.length ≤ u2) (hV1 : Kd.C k36 w V1 q1.length q1) (hv1 : q1.length ≤ v1) (hV2 : Kd.C k36 w V2 q2.length q2) (hv2 : q2.length ≤ v2)
    (hta : tot a.f0 + tot a.f1 + a.f2.size ≤ 1152921504606) (htd : s.size + ww r1 + ww r2 ≤ 1152921504606) (hte : z.size + ww q1 + ww q2 ≤ 1152921504606)
    (hr1 : ∀ x ∈ r1, (Lit.int .i64 x.f0).wf = true) (hr2 : ∀ x ∈ r2, (Lit.int .i64 x.f0).wf = true) (hq1 : ∀ x ∈ q1, (Lit.int .i64 x.f0).wf = true) (hq2 : ∀ x ∈ q2, (Lit.int .i64 x.f0).wf = true) :
    Calls Try.prog 6 #[.agg #[.slice A0 a.f0.length c0, .slice A1 a.f1.length c1, .string a.f2], .agg (dArr L (.slice U1 r1.length u1) (.slice U2 r2.length u2) s M), .agg (dArr P (.slice V1 q1.length v1) (.slice V2 q2.length v2) z Q)] w fun e w' => e = .returned (.bool true) ∧ Below w.heap.size w w' := by
  have BA0 := ((Blk.new w 24 #[.slice A0 a.f0.length c0, .slice A1 a.f1.length c1, .string a.f2]).alloc (.cells (dArr L (.slice U1 r1.length u1) (.slice U2 r2.length u2) s M) 32)).alloc (.cells (dArr P (.slice V1 q1.length v1) (.slice V2 q2.length v2) z Q) 32)
  have BX0 := (Blk.new (w.alloc (.cells #[.slice A0 a.f0.length c0, .slice A1 a.f1.length c1, .string a.f2] 24)) 32 (dArr L (.slice U1 r1.length u1) (.slice U2 r2.length u2) s M)).alloc (.cells (dArr P (.slice V1 q1.length v1) (.slice V2 q2.length v2) z Q) 32)
  have BY0 := Blk.new ((w.alloc (.cells #[.slice A0 a.f0.length c0, .slice A1 a.f1.length c1, .string a.f2] 24)).alloc (.cells (dArr L (.slice U1 r1.length u1) (.slice U2 r2.length u2) s M) 32)) 32 (dArr P (.slice V1 q1.length v1) (.slice V2 q2.length v2) z Q)
  have W0 := (((Below.refl w.heap.size w).alloc (Nat.le_refl _) (.cells #[.slice A0 a.f0.length c0, .slice A1 a.f1.length c1, .string a.f2] 24)).alloc (by simp) (.cells (dArr L (.slice U1 r1.length u1) (.slice U2 r2.length u2) s M) 32)).alloc (by simp; omega) (.cells (dArr P (.slice V1 q1.length v1) (.slice V2 q2.length v2) z Q) 32)
  rw [sz] at BX0
  rw [sz, sz] at BY0
  generalize hw0 : (((w.alloc (.cells #[.slice A0 a.f0.length c0, .slice A1 a.f1.length c1, .string a.f2] 24)).alloc (.cells (dArr L (.slice U1 r1.length u1) (.slice U2 r2.length u2) s M) 32)).alloc (.cells (dArr P (.slice V1 q1.length v1) (.slice V2 q2.length v2) z Q) 32)) = w0 at BA0 BX0 BY0 W0
  have HW0 := Aside0.mk hw0
  clear hw0
  have SX : Aside0 ((dArr L (.slice U1 r1.length u1) (.slice U2 r2.length u2) s M).size = 67) := ⟨dArr_size hL.len hM.len _ _ _⟩
  have SY : Aside0 ((dArr P (.slice V1 q1.length v1) (.slice V2 q2.length v2) z Q).size = 67) := ⟨dArr_size hP.len hQ.len _ _ _⟩
  have ta0 := tot_len a.f0
  have ta1 := tot_len a.f1
  obtain ⟨kg, rg, hg⟩ := great_f 5864062014805 [a] (by simp) (by simp; omega) (Nat.le_refl _)
  have hwt := wtI_tot a
  have HGN := Aside0.mk (show rg = false → wtS [a] ≤ 4000 from fun h => great_no (k := kg) (by simp) (by simp; omega) (by simp only [wtS]; omega) (by rw [← h]; exact hg))
  have W1 := W0.alloc W0.size (.cells #[.slice A0 a.f0.length c0, .slice A1 a.f1.length c1, .string a.f2] 24)
  have GC := Aside0.mk (hibernaclelaw35_great.calls kg _ 1 [a] rg _ (imgs1 A0 c0 A1 c1 a (Kd.C_below hA0 W1) ha0 (Kd.C_below hA1 W1) ha1 (Blk.new w0 24 #[.slice A0 a.f0.length c0, .slice A1 a.f1.length c1, .string a.f2])) (by simp) hg)
  have BA1 := Aside0.mk (BA0.alloc (.cells #[.slice A0 a.f0.length c0, .slice A1 a.f1.length c1, .string a.f2] 24))
  have BX1 := Aside0.mk (BX0.alloc (.cells #[.slice A0 a.f0.length c0, .slice A1 a.f1.length c1, .string a.f2] 24))
  have BY1 := Aside0.mk (BY0.alloc (.cells #[.slice A0 a.f0.length c0, .slice A1 a.f1.length c1, .string a.f2] 24))
  have BA0 := Aside0.mk BA0
  have BX0 := Aside0.mk BX0
  have BY0 := Aside0.mk BY0
  have W0 := Aside0.mk W0
  have W1 := Aside0.mk W1
  have WD : Aside0 (∀ W, Below w.heap.size w W → Calls Try.prog 17 #[.agg (dArr L (.slice U1 r1.length u1) (.slice U2 r2.length u2) s M)] W fun e w' => e = .returned (.bool (decide (s.size + ww r1 + ww r2 > 3000))) ∧ Below W.heap.size W w') := ⟨fun W hb => wide_calls L M hL hM U1 u1 r1 U2 u2 r2 s W (Kd.C_below hU1 hb) hu1 (Kd.C_below hU2 hb) hu2 (by omega)⟩
  have WE : Aside0 (∀ W, Below w.heap.size w W → Calls Try.prog 17 #[.agg (dArr P (.slice V1 q1.length v1) (.slice V2 q2.length v2) z Q)] W fun e w' => e = .returned (.bool (decide (z.size + ww q1 + ww q2 > 3000))) ∧ Below W.heap.size W w') := ⟨fun W hb => wide_calls P Q hP hQ V1 v1 q1 V2 v2 q2 z W (Kd.C_below hV1 hb) hv1 (Kd.C_below hV2 hb) hv2 (by omega)⟩
  have HDN := Aside0.mk (show decide (s.size + ww r1 + ww r2 > 3000) = false → s.size + ww r1 + ww r2 ≤ 3000 from fun h => by have := of_decide_eq_false h; omega)
  have HEN := Aside0.mk (show decide (z.size + ww q1 + ww q2 > 3000) = false → z.size + ww q1 + ww q2 ≤ 3000 from fun h => by have := of_decide_eq_false h; omega)
  generalize decide (s.size + ww r1 + ww r2 > 3000) = rd at WD HDN
  generalize decide (z.size + ww q1 + ww q2 > 3000) = re at WE HEN
  have hL := Aside0.mk hL
  have hM := Aside0.mk hM
  have hP := Aside0.mk hP
  have hQ := Aside0.mk hQ
  clear hg hta htd hte ta0 ta1 hwt
  go_enter Try.func6, Try.ntmps6
  go_wp2_with (first | (rw [show (((w.alloc (.cells #[.slice A0 a.f0.length c0, .slice A1 a.f1.length c1, .string a.f2] 24)).alloc (.cells (dArr L (.slice U1 r1.length u1) (.slice U2 r2.length u2) s M) 32)).alloc (.cells (dArr P (.slice V1 q1.length v1) (.slice V2 q2.length v2) z Q) 32)) = w0 from HW0.out]) | (refine wpList_load_midg (by rfl) 24 (.tmp 3) rfl w.heap.size 0 rfl _ (loadAt_row BA0.out Try.underlying24 rfl (by kernel_rfl)) ?_))
  refine (GC.out).mono ?_
  rintro e w2 ⟨rfl, hb⟩
  have BA2 := Aside0.mk (BA1.out.below hb BA1.out.lt); have BX2 := Aside0.mk (BX1.out.below hb BX1.out.lt); have BY2 := Aside0.mk (BY1.out.below hb BY1.out.lt); have W2 := Aside0.mk (below_then W1.out W1.out.size hb)
  clear hb GC BA0 BX0 BY0 W0 BA1 BX1 BY1 W1 HW0
  cases rg with
  | true =>
    go_wp2_with ((with_reducible refine (fixed_calls _).mono ?_); rintro e wf ⟨rfl, hb⟩; have WF := Aside0.mk (below_then W2.out W2.out.size hb); clear hb)
    go_wp2_with fail
    go_ret
    exact ⟨rfl, WF.out⟩
  | false =>
    have HG := HGN.out rfl
    simp only [wtS, wtI] at HG
    have HG := Aside0.mk HG
    clear HGN
    go_wp2_with (first | (refine wpList_load_midg (by rfl) 32 (.tmp 4) rfl (w.heap.size + 1) 0 rfl _ (loadAt_row BX2.out Try.underlying32 rfl (by rw [SX.out]; kernel_rfl)) ?_))
    refine (WD.out _ W2.out).mono ?_
    rintro e w3 ⟨rfl, hb⟩
    have BA3 := Aside0.mk (BA2.out.below hb BA2.out.lt); have BX3 := Aside0.mk (BX2.out.below hb BX2.out.lt); have BY3 := Aside0.mk (BY2.out.below hb BY2.out.lt); have W3 := Aside0.mk (below_then W2.out W2.out.size hb)
    clear hb BA2 BX2 BY2 W2 WD
    cases rd with
    | true =>
      go_wp2_with ((with_reducible refine (fixed_calls _).mono ?_); rintro e wf ⟨rfl, hb⟩; have WF := Aside0.mk (below_then W3.out W3.out.size hb); clear hb)
      go_wp2_with fail
      go_ret
      exact ⟨rfl, WF.out⟩
    | false =>
      have HD := Aside0.mk (HDN.out rfl)
      clear HDN
      go_wp2_with (first | (refine wpList_load_midg (by rfl) 32 (.tmp 5) rfl (w.heap.size + 1 + 1) 0 rfl _ (loadAt_row BY3.out Try.underlying32 rfl (by rw [SY.out]; kernel_rfl)) ?_))
      refine (WE.out _ W3.out).mono ?_
      rintro e w4 ⟨rfl, hb⟩
      have BA4 := Aside0.mk (BA3.out.below hb BA3.out.lt); have BX4 := Aside0.mk (BX3.out.below hb BX3.out.lt); have BY4 := Aside0.mk (BY3.out.below hb BY3.out.lt); have W4 := Aside0.mk (below_then W3.out W3.out.size hb)
      clear hb BA3 BX3 BY3 W3 WE
      cases re with
      | true =>
        go_wp2_with ((with_reducible refine (fixed_calls _).mono ?_); rintro e wf ⟨rfl, hb⟩; have WF := Aside0.mk (below_then W4.out W4.out.size hb); clear hb)
        go_wp2_with fail
        go_ret
        exact ⟨rfl, WF.out⟩
      | false =>
        have HE := Aside0.mk (HEN.out rfl)
        clear HEN
        have hgA := HG.out
        have hgD := HD.out
        have hgE := HE.out
        have ta0 := tot_wt a.f0
        have ta1 := tot_wt a.f1
        have lr1 := ww_len r1
        have lr2 := ww_len r2
        have lq1 := ww_len q1
        have lq2 := ww_len q2
        have hmx : 6000 ≤ maxLen := by decide
        have hsz : ∀ (l m : List S36) (j : Nat), ww l ≤ 3000 → ww m ≤ 3000 → (rd_T36 (l ++ m) (j : Int)).f1.size ≤ maxLen := fun l m j h1 h2 => by
          have := ww_at (l := l ++ m) (i := j)
          rw [ww_append] at this
          omega
        have hwf : ∀ (l m : List S36) (j : Nat), (∀ x ∈ l, (Lit.int .i64 x.f0).wf = true) → (∀ x ∈ m, (Lit.int .i64 x.f0).wf = true) → (Lit.int .i64 (rd_T36 (l ++ m) (j : Int)).f0).wf = true := fun l m j h1 h2 => rd_all (fun x hx => by
          rcases List.mem_append.1 hx with h | h
          · exact h1 x h
          · exact h2 x h) j
        obtain ⟨y, ec, ly0, ly1, APA⟩ := apply_any L M hL.out hM.out A0 c0 A1 c1 a U1 u1 r1 U2 u2 r2 s w hA0 ha0 hA1 ha1 hU1 hu1 hU2 hu2 (by omega) (by omega)
        obtain ⟨J, j1, j2, zz, QQ, ej, hJ, hQQ, lj1, lj2, JNA⟩ := join_any 3200001 (by omega) L M P Q hL.out hM.out hP.out hQ.out U1 u1 r1 U2 u2 r2 s V1 v1 q1 V2 v2 q2 z w hU1 hu1 hU2 hu2 hV1 hv1 hV2 hv2 (by omega) (by omega) (by omega) (by omega)
          (fun j => hwf _ _ j hr1 hq1) (fun j => hsz _ _ j (by omega) (by omega)) (fun j => hwf _ _ j hr2 hq2) (fun j => hsz _ _ j (by omega) (by omega))
        obtain ⟨ri, hi, hir⟩ := images_f y y (by omega) (by omega) (k := 5864062014806) (by omega)
        obtain rfl : ri = true := hir.2 rfl
        have APA := Aside0.mk APA
        have JNA := Aside0.mk JNA
        have SJ : ∀ T1 t1 T2 t2, (dArr J (.slice T1 j1.length t1) (.slice T2 j2.length t2) zz QQ).size = 67 := fun _ _ _ _ => dArr_size hJ.len hQQ.len _ _ _
        have SJ := Aside0.mk SJ
        have HI := Aside0.mk hi
        have LJ := Aside0.mk (show j1.length ≤ 5864062014805 ∧ j2.length ≤ 5864062014805 from ⟨by omega, by omega⟩)
        have hJ := Aside0.mk hJ
        have hQQ := Aside0.mk hQQ
        clear hgA hgD hgE ta0 ta1 lr1 lr2 lq1 lq2 hmx hsz hwf ly0 ly1 lj1 lj2 hir hi HG HD HE hr1 hr2 hq1 hq2
        go_wp2_with (first | (refine wpList_load_midg (by rfl) 24 (.tmp 3) rfl w.heap.size 0 rfl _ (loadAt_row BA4.out Try.underlying24 rfl (by kernel_rfl)) ?_) | (refine wpList_load_midg (by rfl) 32 (.tmp 4) rfl (w.heap.size + 1) 0 rfl _ (loadAt_row BX4.out Try.underlying32 rfl (by rw [SX.out]; kernel_rfl)) ?_) | ((with_reducible refine ((APA.out _ W4.out).1).mono ?_); rintro e w6 ⟨Y0, d0, Y1, d1, rfl, kk0, mm0, kk1, mm1, hb⟩; have ha := ((Below.refl w6.heap.size w6).alloc (Nat.le_refl _) (.cells #[.slice Y0 y.f0.length d0, .slice Y1 y.f1.length d1, .string y.f2] 24)); have k0 := Aside0.mk (Kd.C_below kk0 ha); have k1 := Aside0.mk (Kd.C_below kk1 ha); have m0 := Aside0.mk mm0; have m1 := Aside0.mk mm1; have hb := below_then hb hb.size ha; have G7 := Aside0.mk (Blk.new w6 24 #[.slice Y0 y.f0.length d0, .slice Y1 y.f1.length d1, .string y.f2]); have BA7 := Aside0.mk (BA4.out.below hb BA4.out.lt); have BX7 := Aside0.mk (BX4.out.below hb BX4.out.lt); have BY7 := Aside0.mk (BY4.out.below hb BY4.out.lt); have W7 := Aside0.mk (below_then W4.out W4.out.size hb); clear hb ha kk0 kk1 mm0 mm1 BA4 BX4 BY4 W4) | (refine wpList_load_midg (by rfl) 24 (.tmp 3) rfl w.heap.size 0 rfl _ (loadAt_row BA7.out Try.underlying24 rfl (by kernel_rfl)) ?_) | (refine wpList_load_midg (by rfl) 32 (.tmp 4) rfl (w.heap.size + 1) 0 rfl _ (loadAt_row BX7.out Try.underlying32 rfl (by rw [SX.out]; kernel_rfl)) ?_) | ((with_reducible refine ((APA.out _ W7.out).2).mono ?_); rintro e w8 ⟨X0, x0, X1, x1, rfl, kk0, mm0, kk1, mm1, hb⟩; have ha := ((Below.refl w8.heap.size w8).alloc (Nat.le_refl _) (.cells #[.slice X0 y.f0.length x0, .slice X1 y.f1.length x1, .string y.f2] 24)); have p0 := Aside0.mk (Kd.C_below kk0 ha); have p1 := Aside0.mk (Kd.C_below kk1 ha); have n0 := Aside0.mk mm0; have n1 := Aside0.mk mm1; have hb := below_then hb hb.size ha; have F9 := Aside0.mk (Blk.new w8 24 #[.slice X0 y.f0.length x0, .slice X1 y.f1.length x1, .string y.f2]); have G9 := Aside0.mk (G7.out.below hb G7.out.lt); have BX9 := Aside0.mk (BX7.out.below hb BX7.out.lt); have BY9 := Aside0.mk (BY7.out.below hb BY7.out.lt); have k0 := Aside0.mk (Kd.C_below k0.out hb); have k1 := Aside0.mk (Kd.C_below k1.out hb); have W9 := Aside0.mk (below_then W7.out W7.out.size hb); clear hb ha kk0 kk1 mm0 mm1 BA7 BX7 BY7 W7 G7) | (refine wpList_load_midg (by rfl) 32 (.tmp 4) rfl (w.heap.size + 1) 0 rfl _ (loadAt_row BX9.out Try.underlying32 rfl (by rw [SX.out]; kernel_rfl)) ?_) | (refine wpList_load_midg (by rfl) 32 (.tmp 5) rfl (w.heap.size + 1 + 1) 0 rfl _ (loadAt_row BY9.out Try.underlying32 rfl (by rw [SY.out]; kernel_rfl)) ?_) | ((with_reducible refine ((JNA.out _ W9.out).1).mono ?_); rintro e w10 ⟨T1, t1, T2, t2, rfl, kk0, mm0, kk1, mm1, hb⟩; have D0 := Aside0.mk (Blk.new w10 32 Try.zeroCells32); have f1 := Aside0.mk kk0; have f2 := Aside0.mk kk1; have g1 := Aside0.mk mm0; have g2 := Aside0.mk mm1; have HB := Aside0.mk hb; clear hb kk0 kk1 mm0 mm1) | (refine wpList_store_row rfl 32 (.tmp 11) (.tmp 43) rfl w10.heap.size _ rfl rfl 32 _ D0.out (by rw [SJ.out]; kernel_rfl) (by rw [SJ.out]; kernel_rfl) (dArr_one _ _ _ _ _ _ _ _ _) ?_; have ha := below_setRow' ((Below.refl w10.heap.size w10).alloc (Nat.le_refl _) (.cells Try.zeroCells32 32)) (Nat.le_refl _) (dArr J (.slice T1 j1.length t1) (.slice T2 j2.length t2) zz QQ); have E11 := Aside0.mk (D0.out.setRow_ (dArr J (.slice T1 j1.length t1) (.slice T2 j2.length t2) zz QQ)); have f1 := Aside0.mk (Kd.C_below f1.out ha); have f2 := Aside0.mk (Kd.C_below f2.out ha); have hb := below_then HB.out HB.out.size ha; generalize hx11 : (w10.alloc (.cells Try.zeroCells32 32)).setRow w10.heap.size (dArr J (.slice T1 j1.length t1) (.slice T2 j2.length t2) zz QQ) = x11 at E11 f1 f2 hb ha ⊢; have BX11 := Aside0.mk (BX9.out.below hb BX9.out.lt); have BY11 := Aside0.mk (BY9.out.below hb BY9.out.lt); have G11 := Aside0.mk (G9.out.below hb G9.out.lt); have F11 := Aside0.mk (F9.out.below hb F9.out.lt); have k0 := Aside0.mk (Kd.C_below k0.out hb); have k1 := Aside0.mk (Kd.C_below k1.out hb); have p0 := Aside0.mk (Kd.C_below p0.out hb); have p1 := Aside0.mk (Kd.C_below p1.out hb); have W11 := Aside0.mk (below_then W9.out W9.out.size hb); clear hb ha HB D0 hx11 W9 BX9 BY9 G9 F9) | (refine wpList_load_midg (by rfl) 32 (.tmp 4) rfl (w.heap.size + 1) 0 rfl _ (loadAt_row BX11.out Try.underlying32 rfl (by rw [SX.out]; kernel_rfl)) ?_) | (refine wpList_load_midg (by rfl) 32 (.tmp 5) rfl (w.heap.size + 1 + 1) 0 rfl _ (loadAt_row BY11.out Try.underlying32 rfl (by rw [SY.out]; kernel_rfl)) ?_) | ((with_reducible refine ((JNA.out _ W11.out).2).mono ?_); rintro e w12 ⟨S1, s1, S2, s2, rfl, kk0, mm0, kk1, mm1, hb⟩; have D0 := Aside0.mk (Blk.new w12 32 Try.zeroCells32); have f3 := Aside0.mk kk0; have f4 := Aside0.mk kk1; have g3 := Aside0.mk mm0; have g4 := Aside0.mk mm1; have HB := Aside0.mk hb; clear hb kk0 kk1 mm0 mm1) | (refine wpList_store_row rfl 32 (.tmp 13) (.tmp 49) rfl w12.heap.size _ rfl rfl 32 _ D0.out (by rw [SJ.out]; kernel_rfl) (by rw [SJ.out]; kernel_rfl) (dArr_one _ _ _ _ _ _ _ _ _) ?_; have ha := below_setRow' ((Below.refl w12.heap.size w12).alloc (Nat.le_refl _) (.cells Try.zeroCells32 32)) (Nat.le_refl _) (dArr J (.slice S1 j1.length s1) (.slice S2 j2.length s2) zz QQ); have H13 := Aside0.mk (D0.out.setRow_ (dArr J (.slice S1 j1.length s1) (.slice S2 j2.length s2) zz QQ)); have f3 := Aside0.mk (Kd.C_below f3.out ha); have f4 := Aside0.mk (Kd.C_below f4.out ha); have hb := below_then HB.out HB.out.size ha; generalize hx13 : (w12.alloc (.cells Try.zeroCells32 32)).setRow w12.heap.size (dArr J (.slice S1 j1.length s1) (.slice S2 j2.length s2) zz QQ) = x13 at H13 f3 f4 hb ha ⊢; have G13 := Aside0.mk (G11.out.below hb G11.out.lt); have F13 := Aside0.mk (F11.out.below hb F11.out.lt); have E13 := Aside0.mk (E11.out.below hb E11.out.lt); have k0 := Aside0.mk (Kd.C_below k0.out hb); have k1 := Aside0.mk (Kd.C_below k1.out hb); have p0 := Aside0.mk (Kd.C_below p0.out hb); have p1 := Aside0.mk (Kd.C_below p1.out hb); have f1 := Aside0.mk (Kd.C_below f1.out hb); have f2 := Aside0.mk (Kd.C_below f2.out hb); have W13 := Aside0.mk (below_then W11.out W11.out.size hb); clear hb ha HB D0 hx13 W11 G11 F11 E11) | ((with_reducible refine (fixed_calls _).mono ?_); rintro e wf ⟨rfl, hb⟩; have G20 := Aside0.mk (G13.out.below hb G13.out.lt); have F20 := Aside0.mk (F13.out.below hb F13.out.lt); have E20 := Aside0.mk (E13.out.below hb E13.out.lt); have H20 := Aside0.mk (H13.out.below hb H13.out.lt); have k0 := Aside0.mk (Kd.C_below k0.out hb); have k1 := Aside0.mk (Kd.C_below k1.out hb); have p0 := Aside0.mk (Kd.C_below p0.out hb); have p1 := Aside0.mk (Kd.C_below p1.out hb); have f1 := Aside0.mk (Kd.C_below f1.out hb); have f2 := Aside0.mk (Kd.C_below f2.out hb); have f3 := Aside0.mk (Kd.C_below f3.out hb); have f4 := Aside0.mk (Kd.C_below f4.out hb); have W20 := Aside0.mk (below_then W13.out W13.out.size hb); clear hb W13 G13 F13 E13 H13) | (refine wpList_load_midg (by rfl) 24 (.tmp 7) rfl w6.heap.size 0 rfl _ (loadAt_row G20.out Try.underlying24 rfl (by kernel_rfl)) ?_) | (refine wpList_load_midg (by rfl) 24 (.tmp 9) rfl w8.heap.size 0 rfl _ (loadAt_row F20.out Try.underlying24 rfl (by kernel_rfl)) ?_))
        refine (hibernacleref35_Images.calls 5864062014806 Y0 d0 y.f0 Y1 d1 y.f1 y.f2 X0 x0 y.f0 X1 x1 y.f1 y.f2 true _ k0.out m0.out k1.out m1.out p0.out n0.out p1.out n1.out HI.out).mono ?_
        rintro e w14 ⟨rfl, hb⟩
        have E14 := Aside0.mk (E20.out.below hb E20.out.lt); have H14 := Aside0.mk (H20.out.below hb H20.out.lt); have f1 := Aside0.mk (Kd.C_below f1.out hb); have f2 := Aside0.mk (Kd.C_below f2.out hb); have f3 := Aside0.mk (Kd.C_below f3.out hb); have f4 := Aside0.mk (Kd.C_below f4.out hb); have W14 := Aside0.mk (below_then W20.out W20.out.size hb)
        clear hb
        go_wp2_with (first | (refine wpList_load_midg (by rfl) 32 (.tmp 11) rfl w10.heap.size 0 rfl _ (loadAt_row E14.out Try.underlying32 rfl (by rw [SJ.out]; kernel_rfl)) ?_) | (refine wpList_load_midg (by rfl) 32 (.tmp 13) rfl w12.heap.size 0 rfl _ (loadAt_row H14.out Try.underlying32 rfl (by rw [SJ.out]; kernel_rfl)) ?_))
        refine (same_calls J QQ hJ.out hQQ.out T1 t1 T2 t2 S1 s1 S2 s2 j1 j2 zz _ f1.out g1.out f2.out g2.out f3.out g3.out f4.out g4.out LJ.out.1 LJ.out.2).mono ?_
        rintro e w15 ⟨rfl, hb⟩
        have WZ := below_then W14.out W14.out.size hb
        clear hb
        go_wp2_with fail
        go_ret
        exact ⟨rfl, WZ⟩
end Go.Proofs.Ytoljjgabgdifbaa.H


namespace Go.Proofs.Ytoljjgabgdifbaa.H
open Go.ChangeShapes Go.WideShapes Go.ChangeAt Go.RowKit Go.Joins
open Go.RowKit Go.Proofs.YtoljjgabgdifbaaW.PrintWords Go.Proofs.YtoljjgabgdifbaaW.PrintLast
set_option linter.unusedVariables false
set_option linter.unusedSimpArgs false

theorem cells36 : Try.prog.cellsOf 36 = 2 := by kernel_rfl
theorem cells3 : Try.prog.cellsOf 3 = 1 := by kernel_rfl
theorem cells5 : Try.prog.cellsOf 5 = 1 := by kernel_rfl
theorem cells29 : Try.prog.cellsOf 29 = 32 := by kernel_rfl
theorem cells30 : Try.prog.cellsOf 30 = 1 := by kernel_rfl
theorem cells32 : Try.prog.cellsOf 32 = 67 := by kernel_rfl
def numV : Value → Int
  | .int _ n => n
  | _ => 0
def strV : Value → ByteArray
  | .string s => s
  | _ => ByteArray.empty
theorem ww_bulk {H : Type} (D0 D1 : Nat → DataW H) (g : Nat → S36) : ∀ l : List Nat, (∀ i ∈ l, D1 i = .lit (.string (g i).f1.data.toList)) → ww (l.map g) ≤ 8 * Rows.uptoBulkAll (l.map fun i => DataW.agg [D0 i, D1 i])
  | [], _ => Nat.zero_le _
  | i :: l, h => by
    have ih := ww_bulk D0 D1 g l (fun j hj => h j (List.mem_cons_of_mem _ hj))
    have e := h i List.mem_cons_self
    simp only [List.map_cons, ww, Rows.uptoBulkAll, Rows.uptoBulk, e, Array.length_toList]
    have : (g i).f1.data.size = (g i).f1.size := rfl
    omega
section
variable {H : Type} {enc : TypeId × Value → H} {W : World}
theorem open_writes {fuel : Nat} {v : Value} {y : DataW H × List MemPlace} (h : DataW.trod enc Try.prog W 0 (fun _ => true) true fuel 30 [v] = some y) :
    ∃ (A : Option Addr) (c : Nat) (l : List S36), v = .slice A l.length c ∧ Kd.C k36 W A l.length l ∧ l.length ≤ c ∧ (∀ x ∈ l, (Lit.int .i64 x.f0).wf = true) ∧ ww l ≤ 8 * Rows.uptoBulk y.1 := by
  rcases Deep.open_slice_pairs Try.underlying30 Try.underlying36 cells36 rfl rfl cells3 cells9 h with ⟨e, hx⟩ | ⟨a, len, cap, m, n, V0, V1, D0, D1, P0, P1, e, _, hl, hm, hmm, hx, hc⟩
  · simp only [List.cons.injEq, and_true] at e
    subst hx
    exact ⟨none, 0, [], e, Kd.C_nil _ _, Nat.le_refl _, by simp, Nat.zero_le _⟩
  · simp only [List.cons.injEq, and_true] at e
    have hlm : len ≤ m := by rw [hmm]; split <;> omega
    have hmx : maxLen ≤ 9223372036854775807 := by decide
    have h0 : ∀ i, i < len → V0 i = .int .i64 (numV (V0 i)) ∧ (Lit.int .i64 (numV (V0 i))).wf = true := fun i hi => by
      obtain ⟨k, hk, _, hw⟩ := DataW.trod_int Try.underlying3 (hc i (by omega)).2.2.1
      simp only [List.cons.injEq, and_true] at hk
      rw [hk]
      exact ⟨rfl, hw⟩
    have h1 : ∀ i, i < len → V1 i = .string (strV (V1 i)) ∧ D1 i = .lit (.string (strV (V1 i)).data.toList) := fun i hi => by
      obtain ⟨s, hs, hd, _⟩ := DataW.trod_string Try.underlying9 (hc i (by omega)).2.2.2
      simp only [List.cons.injEq, and_true] at hs
      rw [hs]
      exact ⟨rfl, by injection hd⟩
    have hlen : ((List.range len).map fun i => (⟨numV (V0 i), strV (V1 i)⟩ : S36)).length = len := by rw [List.length_map, List.length_range]
    refine ⟨some a, cap, (List.range len).map fun i => (⟨numV (V0 i), strV (V1 i)⟩ : S36), by rw [hlen]; exact e, ?_, by rw [hlen]; exact hl, ?_, ?_⟩
    · refine ⟨rfl, by rw [hlen]; omega, fun _ => ⟨a, rfl, fun j p hp => ?_⟩⟩
      obtain ⟨hj, rfl⟩ := List.getElem?_eq_some_iff.1 hp
      rw [hlen] at hj
      simp only [List.getElem_map, List.getElem_range]
      obtain ⟨c0, c1, _, _⟩ := hc j (by omega)
      refine ⟨[.int .i64 (numV (V0 j)), .string (strV (V1 j))], rfl, k36_mk W ⟨numV (V0 j), strV (V1 j)⟩, fun i u hu => ?_⟩
      match i, hu with
      | 0, hu =>
        obtain rfl := Option.some.inj hu
        rw [← (h0 j hj).1]
        exact c0
      | 1, hu =>
        obtain rfl := Option.some.inj hu
        rw [← (h1 j hj).1]
        exact c1
      | i + 2, hu => simp at hu
    · intro x hx2
      obtain ⟨i, hi, rfl⟩ := List.mem_map.1 hx2
      exact (h0 i (List.mem_range.1 hi)).2
    · rw [hx]
      have := ww_bulk D0 D1 (fun i => (⟨numV (V0 i), strV (V1 i)⟩ : S36)) (List.range len) (fun i hi => (h1 i (List.mem_range.1 hi)).2)
      simp only [Rows.uptoBulk]
      omega
theorem open_dig {fuel : Nat} {cs : List Value} {y : DataW H × List MemPlace} (h : DataW.trod enc Try.prog W 0 (fun _ => true) true fuel 29 cs = some y) : ∃ L, Dig L ∧ cs = nums .u8 L := by
  obtain ⟨xs, m, _, _, hl, hxl, hf⟩ := DataW.trod_array Try.underlying29 h
  rw [cells29] at hl
  have each : ∀ i (hi : i < cs.length), ∃ n, cs[i] = .int .u8 n ∧ (Lit.int .u8 n).wf = true := fun i hi => by
    have h1 := hf i (by omega)
    rw [cells5, Nat.mul_one, List.getElem?_eq_getElem (by omega)] at h1
    obtain ⟨n, hn, _, hw⟩ := DataW.trod_int Try.underlying5 h1
    rw [List.drop_eq_getElem_cons hi] at hn
    simp only [List.take_succ_cons, List.take_zero, List.cons.injEq, and_true] at hn
    exact ⟨n, hn, hw⟩
  refine ⟨cs.map numV, ⟨by rw [List.length_map]; exact hl, ?_⟩, ?_⟩
  · intro v hv
    obtain ⟨c, hc, rfl⟩ := List.mem_map.1 hv
    obtain ⟨i, hi, rfl⟩ := List.getElem_of_mem hc
    obtain ⟨n, hn, hw⟩ := each i hi
    rw [hn]
    simp [Lit.wf, IntKind.min, IntKind.max, IntKind.signed, IntKind.bits] at hw
    show 0 ≤ n ∧ n < 256
    omega
  · apply List.ext_getElem
    · simp [nums]
    · intro i h1 h2
      obtain ⟨n, hn, _⟩ := each i h1
      simp only [nums, List.getElem_map, hn]
      rfl
theorem cut67 {l : List Value} (h : l.length = 67) : l = (l.drop 0).take 32 ++ ((l.drop 32).take 1 ++ ((l.drop 33).take 1 ++ ((l.drop 34).take 1 ++ (l.drop 35).take 32))) := by
  have e : ∀ (a b : Nat), (l.drop a).take b ++ l.drop (a + b) = l.drop a := fun a b => by
    rw [← List.drop_drop]
    exact List.take_append_drop b (l.drop a)
  rw [List.take_of_length_le (l := l.drop 35) (by rw [List.length_drop]; omega), e 34 1, e 33 1, e 32 1, e 0 32, List.drop_zero]
set_option maxRecDepth 100000 in
/-- A delta that came in. -/
theorem open_delta {r : Reach} {b0 : Nat} {v : Value} {d : DataW H} {p : List MemPlace} (hv : Value.okWide Try.prog W r b0 32 v) (h : DataW.Trod enc Try.prog W 0 (fun _ => true) true 32 v d p) :
    ∃ (L M : List Int) (A : Option Addr) (c : Nat) (l : List S36) (B : Option Addr) (e : Nat) (m : List S36) (s : ByteArray), Dig L ∧ Dig M ∧ v = .agg (dArr L (.slice A l.length c) (.slice B m.length e) s M) ∧
      Kd.C k36 W A l.length l ∧ l.length ≤ c ∧ Kd.C k36 W B m.length m ∧ m.length ≤ e ∧ (∀ x ∈ l, (Lit.int .i64 x.f0).wf = true) ∧ (∀ x ∈ m, (Lit.int .i64 x.f0).wf = true) ∧ s.size + ww l + ww m ≤ 8 * Rows.uptoBulk d := by
  obtain ⟨cs, rfl, hsz⟩ := okWide_struct Try.underlying32 hv
  obtain ⟨fuel, hf⟩ := h
  obtain ⟨xs, n, _, hx, hl, hlen, hg⟩ := DataW.trod_struct Try.underlying32 hf
  match xs, hlen with
  | [y0, y1, y2, y3, y4], _ =>
    have hl67 : (Value.agg cs).cells.toList.length = 67 := hl.trans cells32
    generalize hl0 : (Value.agg cs).cells.toList = l0 at hg hl67
    have g0 : DataW.trod enc Try.prog W 0 (fun _ => true) true n 29 ((l0.drop 0).take (Try.prog.cellsOf 29)) = some y0 := hg 0 _ rfl
    have g1 : DataW.trod enc Try.prog W 0 (fun _ => true) true n 30 ((l0.drop 32).take (Try.prog.cellsOf 30)) = some y1 := hg 1 _ rfl
    have g2 : DataW.trod enc Try.prog W 0 (fun _ => true) true n 30 ((l0.drop 33).take (Try.prog.cellsOf 30)) = some y2 := hg 2 _ rfl
    have g3 : DataW.trod enc Try.prog W 0 (fun _ => true) true n 9 ((l0.drop 34).take (Try.prog.cellsOf 9)) = some y3 := hg 3 _ rfl
    have g4 : DataW.trod enc Try.prog W 0 (fun _ => true) true n 29 ((l0.drop 35).take (Try.prog.cellsOf 29)) = some y4 := hg 4 _ rfl
    rw [cells29] at g0 g4
    rw [cells30] at g1 g2
    rw [cells9] at g3
    have one : ∀ i, i < 67 → ∃ v, (l0.drop i).take 1 = [v] := fun i hi => ⟨l0[i]'(by omega), by rw [List.drop_eq_getElem_cons (show i < l0.length by omega), List.take_succ_cons, List.take_zero]⟩
    obtain ⟨v1, e1⟩ := one 32 (by omega)
    obtain ⟨v2, e2⟩ := one 33 (by omega)
    obtain ⟨v3, e3⟩ := one 34 (by omega)
    rw [e1] at g1
    rw [e2] at g2
    rw [e3] at g3
    obtain ⟨L, hL, e0⟩ := open_dig g0
    obtain ⟨M, hM, e4⟩ := open_dig g4
    obtain ⟨A, c, l, rfl, hA, hc, hwA, hbA⟩ := open_writes g1
    obtain ⟨B, e, m, rfl, hB, he, hwB, hbB⟩ := open_writes g2
    obtain ⟨s, es, hs, _⟩ := DataW.trod_string Try.underlying9 g3
    simp only [List.cons.injEq, and_true] at es
    subst es
    have hcut := cut67 hl67
    rw [e0, e1, e2, e3, e4] at hcut
    refine ⟨L, M, A, c, l, B, e, m, s, hL, hM, ?_, hA, hc, hB, he, hwA, hwB, ?_⟩
    · congr 1
      apply Array.ext'
      rw [show cs.toList = l0 from hl0, hcut]
      simp [dArr]
    · have hd : d = DataW.agg [y0.1, y1.1, y2.1, y3.1, y4.1] := congrArg Prod.fst hx
      rw [hd]
      rw [hs]
      simp only [Rows.uptoBulk, Rows.uptoBulkAll, Array.length_toList]
      have : s.data.size = s.size := rfl
      omega
end
end Go.Proofs.Ytoljjgabgdifbaa.H

