/- Layer 35's statement DeltaIs: the walk. -/
import Derived.Test.YtoljjgabgdifbaaH14
import Derived.Test.YtoljjgabgdifbaaR5
import Derived.Test.YtoljjgabgdifbaaR6
namespace Go.Proofs.Ytoljjgabgdifbaa.H
open Go.RowKit Go.Proofs.YtoljjgabgdifbaaW.PrintWords Go.Proofs.YtoljjgabgdifbaaW.PrintLast Go.Proofs.YtoljjgabgdifbaaW.PrintMore
set_option linter.unusedVariables false
set_option linter.unusedSimpArgs false

theorem aOf_le (a b : S24) {n : Nat} (h0 : a.f0.length ≤ n) (h1 : a.f1.length ≤ n) : (aOf a b).f0.length ≤ n ∧ (aOf a b).f1.length ≤ n := by
  unfold aOf
  split
  · simp
  · exact ⟨h0, h1⟩
theorem Kd.R_C {w : World} {base : Nat} {A : Option Addr} {c : Nat} {r : List S36} (h : Kd.R k36 36 w base (fun _ => True) (.slice A r.length c) r) : Kd.C k36 w A r.length r := (Kd.R_reads' h).2.2
theorem Kd.R_cap {w : World} {base : Nat} {A : Option Addr} {c : Nat} {r : List S36} (h : Kd.R k36 36 w base (fun _ => True) (.slice A r.length c) r) : r.length ≤ c := (Kd.R_reads' h).2.1
theorem imgs2r {w : World} {g : Nat} (A0 : Option Addr) (c0 : Nat) (A1 : Option Addr) (c1 : Nat) (a : S24) (P0 : Option Addr) (p0 : Nat) (P1 : Option Addr) (p1 : Nat) (b : S24)
    (hA0 : Kd.C Kd.string w A0 a.f0.length a.f0) (ha0 : a.f0.length ≤ c0) (hA1 : Kd.C Kd.string w A1 a.f1.length a.f1) (ha1 : a.f1.length ≤ c1)
    (hP0 : Kd.C Kd.string w P0 b.f0.length b.f0) (hp0 : b.f0.length ≤ p0) (hP1 : Kd.C Kd.string w P1 b.f1.length b.f1) (hp1 : b.f1.length ≤ p1)
    (h : Blk w g 24 #[.slice A0 a.f0.length c0, .slice A1 a.f1.length c1, .string a.f2, .slice P0 b.f0.length p0, .slice P1 b.f1.length p1, .string b.f2]) : Kd.C k24 w (some ⟨g, 0, none⟩) [a, b].length [a, b] := by
  refine ⟨rfl, by simp, fun _ => ⟨_, rfl, fun j p hp => ?_⟩⟩
  match j, hp with
  | 0, hp =>
    obtain rfl : a = p := by simpa using hp
    refine ⟨[.slice A0 a.f0.length c0, .slice A1 a.f1.length c1, .string a.f2], rfl, k24_mk w a ha0 hA0 ha1 hA1, fun i u hu => ?_⟩
    rw [add_plain, h.cell]
    match i, hu with
    | 0, hu => exact hu
    | 1, hu => exact hu
    | 2, hu => exact hu
    | i + 3, hu => simp at hu
  | 1, hp =>
    obtain rfl : b = p := by simpa using hp
    refine ⟨[.slice P0 b.f0.length p0, .slice P1 b.f1.length p1, .string b.f2], rfl, k24_mk w b hp0 hP0 hp1 hP1, fun i u hu => ?_⟩
    rw [add_plain, h.cell]
    match i, hu with
    | 0, hu => exact hu
    | 1, hu => exact hu
    | 2, hu => exact hu
    | i + 3, hu => simp at hu
  | j + 2, hp => simp at hp

set_option maxRecDepth 100000 in
set_option maxHeartbeats 8000000 in
theorem is_calls (A0 : Option Addr) (c0 : Nat) (A1 : Option Addr) (c1 : Nat) (a : S24) (P0 : Option Addr) (p0 : Nat) (P1 : Option Addr) (p1 : Nat) (b : S24) (w : World)
    (hA0 : Kd.C Kd.string w A0 a.f0.length a.f0) (ha0 : a.f0.length ≤ c0) (hA1 : Kd.C Kd.string w A1 a.f1.length a.f1) (ha1 : a.f1.length ≤ c1)
    (hP0 : Kd.C Kd.string w P0 b.f0.length b.f0) (hp0 : b.f0.length ≤ p0) (hP1 : Kd.C Kd.string w P1 b.f1.length b.f1) (hp1 : b.f1.length ≤ p1)
    (hLa : (imageL a.f0 a.f1 a.f2).length ≤ 140737488355328) (hLb : (imageL b.f0 b.f1 b.f2).length ≤ 140737488355328)
    (hm : a.f0.length ≤ 5864062014805 ∧ a.f1.length ≤ 5864062014805 ∧ b.f0.length ≤ 5864062014805 ∧ b.f1.length ≤ 5864062014805) :
    Calls Try.prog 3 #[.agg #[.slice A0 a.f0.length c0, .slice A1 a.f1.length c1, .string a.f2], .agg #[.slice P0 b.f0.length p0, .slice P1 b.f1.length p1, .string b.f2]] w fun e w' => e = .returned (.bool true) ∧ Below w.heap.size w w' := by
  have BA := Blk.new w 24 #[.slice A0 a.f0.length c0, .slice A1 a.f1.length c1, .string a.f2]
  have BB := Blk.new (w.alloc (.cells #[.slice A0 a.f0.length c0, .slice A1 a.f1.length c1, .string a.f2] 24)) 24 #[.slice P0 b.f0.length p0, .slice P1 b.f1.length p1, .string b.f2]
  have BA := BA.alloc (.cells #[.slice P0 b.f0.length p0, .slice P1 b.f1.length p1, .string b.f2] 24)
  have W0 := ((Below.refl w.heap.size w).alloc (Nat.le_refl _) (.cells #[.slice A0 a.f0.length c0, .slice A1 a.f1.length c1, .string a.f2] 24)).alloc (by simp) (.cells #[.slice P0 b.f0.length p0, .slice P1 b.f1.length p1, .string b.f2] 24)
  rw [sz] at BB
  generalize hw0 : ((w.alloc (.cells #[.slice A0 a.f0.length c0, .slice A1 a.f1.length c1, .string a.f2] 24)).alloc (.cells #[.slice P0 b.f0.length p0, .slice P1 b.f1.length p1, .string b.f2] 24)) = w0 at BA BB W0
  have HW0 := Aside0.mk hw0
  clear hw0
  obtain ⟨kg, rg, hg⟩ := great_f 5864062014805 [a, b] (by simp) (by simp; omega) (Nat.le_refl _)
  have W1 := W0.alloc (by have := W0.size; omega) (.cells #[.slice A0 a.f0.length c0, .slice A1 a.f1.length c1, .string a.f2, .slice P0 b.f0.length p0, .slice P1 b.f1.length p1, .string b.f2] 24)
  have G1 := imgs2r A0 c0 A1 c1 a P0 p0 P1 p1 b (Kd.C_below hA0 W1) ha0 (Kd.C_below hA1 W1) ha1 (Kd.C_below hP0 W1) hp0 (Kd.C_below hP1 W1) hp1 (Blk.new w0 24 _)
  have BA1 := Aside0.mk (BA.alloc (.cells #[.slice A0 a.f0.length c0, .slice A1 a.f1.length c1, .string a.f2, .slice P0 b.f0.length p0, .slice P1 b.f1.length p1, .string b.f2] 24))
  have BB1 := Aside0.mk (BB.alloc (.cells #[.slice A0 a.f0.length c0, .slice A1 a.f1.length c1, .string a.f2, .slice P0 b.f0.length p0, .slice P1 b.f1.length p1, .string b.f2] 24))
  have W1 := Aside0.mk W1
  have GC := Aside0.mk (hibernaclelaw35_great.calls kg _ 2 [a, b] rg _ G1 (by simp) hg)
  have BA := Aside0.mk BA
  have BB := Aside0.mk BB
  have W0 := Aside0.mk W0
  go_enter Try.func3, Try.ntmps3
  go_wp2_with (first | (rw [show ((w.alloc (.cells #[.slice A0 a.f0.length c0, .slice A1 a.f1.length c1, .string a.f2] 24)).alloc (.cells #[.slice P0 b.f0.length p0, .slice P1 b.f1.length p1, .string b.f2] 24)) = w0 from HW0.out]) | (refine wpList_load_row rfl 24 (.tmp 2) rfl w.heap.size rfl 24 _ (0, 0) _ BA.out Try.underlying24 rfl (by kernel_rfl) ?_) | (refine wpList_load_row rfl 24 (.tmp 3) rfl (w.heap.size + 1) rfl 24 _ (0, 0) _ BB.out Try.underlying24 rfl (by kernel_rfl) ?_))
  have e1 : ∀ l : List ByteArray, ∀ m : List ByteArray, l.length = m.length ∨ l.length ≠ m.length := fun l m => by omega
  refine (GC.out).mono ?_
  rintro e w2 ⟨rfl, hb⟩
  have qa := Aside0.mk (BA1.out.below hb BA1.out.lt)
  have qb := Aside0.mk (BB1.out.below hb BB1.out.lt)
  have W2 := Aside0.mk (below_then W1.out W1.out.size hb)
  clear hb GC G1 BA BB W0 BA1 BB1 W1 HW0 hg
  cases rg with
  | true =>
    go_wp2_with ((with_reducible refine (fixed_calls _).mono ?_); rintro e w3 ⟨rfl, hb⟩; have W3 := Aside0.mk (below_then W2.out W2.out.size hb); clear hb)
    go_wp2_with fail
    go_ret
    exact ⟨rfl, W3.out⟩
  | false =>
    have hr1 := writes_f (aOf a b).f0 b.f0 hm.2.2.1 (k := 5864062014806) (by omega)
    have hr2 := writes_f (aOf a b).f1 b.f1 hm.2.2.2 (k := 5864062014806) (by omega)
    have hs1 := others_f (aOf a b).f0 b.f0 hm.2.2.1 (k := 5864062014806) (by omega)
    have hs2 := others_f (aOf a b).f1 b.f1 hm.2.2.2 (k := 5864062014806) (by omega)
    have m1 := Nat.le_trans (chg_len (aOf a b).f0 b.f0 b.f0.length) hm.2.2.1
    have m2 := Nat.le_trans (chg_len (aOf a b).f1 b.f1 b.f1.length) hm.2.2.2
    have hma := And.intro hm.1 hm.2.1
    have hmb := hm.2.2
    generalize chg (aOf a b).f0 b.f0 b.f0.length = r1 at hr1 hs1 m1
    generalize chg (aOf a b).f1 b.f1 b.f1.length = r2 at hr2 hs2 m2
    clear e1
    go_wp2_with fail
    have qa2 := Aside0.mk qa.out.drew
    have qb2 := Aside0.mk qb.out.drew
    have W2 := Aside0.mk (below_drew W2.out)
    clear qa qb
    refine start_ (n := 11) (S := fun w' => Blk w' w.heap.size 24 #[.slice A0 a.f0.length c0, .slice A1 a.f1.length c1, .string a.f2] ∧ Blk w' (w.heap.size + 1) 24 #[.slice P0 b.f0.length p0, .slice P1 b.f1.length p1, .string b.f2]) (ds := []) #[false, false, false, false, false, false, false, false, false, false, false] (by kernel_rfl) rfl rfl ⟨qa2.out, qb2.out⟩ (fun hHeld => ?_)
    refine one_ (i := 0) (N := some 10) #[true, false, false, false, false, false, false, false, false, false, false] rfl rfl (by kernel_rfl) (by decide) (fun K hK => ?_)
    refine goes_ Try.func9 (by kernel_rfl) rfl #[] (by rfl) rfl rfl (by simp only [List.map_toArray, List.map_nil]) ?_
    with_reducible refine (fixed_calls _).mono ?_
    rintro e w3 ⟨rfl, hb⟩
    refine ⟨_, rfl, ?_⟩
    have qa3 := Aside0.mk (qa2.out.below hb qa2.out.lt)
    have qb3 := Aside0.mk (qb2.out.below hb qb2.out.lt)
    have W3 := Aside0.mk (below_then W2.out W2.out.size hb)
    clear hb
    refine hK.out _ _ ⟨qa3.out, qb3.out⟩ (fun hHeld => ?_)
    clear hK K
    refine norm_ (a' := ?_) ?_ ?_
    rotate_left
    · show Act.put _ (some 10) _ = _
      simp only [Act.put, List.setIfInBounds_toArray, List.set_cons_zero, List.set_cons_succ, i64_w, i32_w]
      rfl
    refine pure_ (i := 1) (N := some 11) (v := ?_) (a' := ?_) #[true, true, false, false, false, false, false, false, false, false, false] rfl rfl (by kernel_rfl) (fun _ _ _ h => h) (Or.inl ⟨by rfl, ?_⟩) ?_ ?_
    rotate_left
    · intro w'
      go_simp
      with_reducible rfl
    rotate_left
    · simp only [Act.put, List.setIfInBounds_toArray, List.set_cons_zero, List.set_cons_succ, i64_w, i32_w]
      rfl
    refine take_ (i := 2) (N := some 12) (v := ?_) (a' := ?_) #[true, true, true, false, false, false, false, false, false, false, false] rfl rfl (by kernel_rfl) (fun _ _ _ h => h) (Or.inl ⟨by rfl, ?_⟩) hHeld ?_ ?_
    rotate_left
    · rintro w' ⟨s0, s1⟩
      refine row_loads 24 (.tmp 2) ?_ w.heap.size ?_ s0 Try.underlying24 ?_ ?_
      · rfl
      · rfl
      · rfl
      · kernel_rfl
    rotate_left
    · simp only [Act.put, List.setIfInBounds_toArray, List.set_cons_zero, List.set_cons_succ, i64_w, i32_w]
      rfl
    refine take_ (i := 3) (N := some 13) (v := ?_) (a' := ?_) #[true, true, true, true, false, false, false, false, false, false, false] rfl rfl (by kernel_rfl) (fun _ _ _ h => h) (Or.inl ⟨by rfl, ?_⟩) hHeld ?_ ?_
    rotate_left
    · rintro w' ⟨s0, s1⟩
      refine row_loads 24 (.tmp 3) ?_ (w.heap.size + 1) ?_ s1 Try.underlying24 ?_ ?_
      · rfl
      · rfl
      · rfl
      · kernel_rfl
    rotate_left
    · simp only [Act.put, List.setIfInBounds_toArray, List.set_cons_zero, List.set_cons_succ, i64_w, i32_w]
      rfl
    refine take_ (i := 5) (N := some 15) (v := ?_) (a' := ?_) #[true, true, true, true, false, true, false, false, false, false, false] rfl rfl (by kernel_rfl) (fun _ _ _ h => h) (Or.inl ⟨by rfl, ?_⟩) hHeld ?_ ?_
    rotate_left
    · rintro w' ⟨s0, s1⟩
      refine row_loads 24 (.tmp 2) ?_ w.heap.size ?_ s0 Try.underlying24 ?_ ?_
      · rfl
      · rfl
      · rfl
      · kernel_rfl
    rotate_left
    · simp only [Act.put, List.setIfInBounds_toArray, List.set_cons_zero, List.set_cons_succ, i64_w, i32_w]
      rfl
    refine take_ (i := 6) (N := some 16) (v := ?_) (a' := ?_) #[true, true, true, true, false, true, true, false, false, false, false] rfl rfl (by kernel_rfl) (fun _ _ _ h => h) (Or.inl ⟨by rfl, ?_⟩) hHeld ?_ ?_
    rotate_left
    · rintro w' ⟨s0, s1⟩
      refine row_loads 24 (.tmp 3) ?_ (w.heap.size + 1) ?_ s1 Try.underlying24 ?_ ?_
      · rfl
      · rfl
      · rfl
      · kernel_rfl
    rotate_left
    · simp only [Act.put, List.setIfInBounds_toArray, List.set_cons_zero, List.set_cons_succ, i64_w, i32_w]
      rfl
    refine one_ (i := 4) (N := some 14) #[true, true, true, true, true, true, true, false, false, false, false] rfl rfl (by kernel_rfl) (by decide) (fun K hK => ?_)
    refine goes_ Try.func11 (by kernel_rfl) rfl #[.agg #[.slice A0 a.f0.length c0, .slice A1 a.f1.length c1, .string a.f2], .agg #[.slice P0 b.f0.length p0, .slice P1 b.f1.length p1, .string b.f2]] (by rfl) rfl rfl (by simp only [List.map_toArray, List.map_cons, List.map_nil]; rfl) ?_
    with_reducible refine (of_calls 5864062014806 A0 c0 A1 c1 a P0 p0 P1 p1 b r1 r2 _ (Kd.C_below hA0 W3.out) ha0 (Kd.C_below hA1 W3.out) ha1 (Kd.C_below hP0 W3.out) hp0 (Kd.C_below hP1 W3.out) hp1 hLa hLb hr1 hr2).mono ?_
    rintro e w4 ⟨U1, u1, U2, u2, rfl, hR1, hR2, hb⟩
    refine ⟨_, rfl, ?_⟩
    have qa4 := Aside0.mk (qa3.out.below hb qa3.out.lt)
    have qb4 := Aside0.mk (qb3.out.below hb qb3.out.lt)
    have W4 := Aside0.mk (below_then W3.out W3.out.size hb)
    have R14 := Aside0.mk hR1
    have R24 := Aside0.mk hR2
    clear hb hR1 hR2
    refine hK.out _ _ ⟨qa4.out, qb4.out⟩ (fun hHeld => ?_)
    clear hK K
    refine norm_ (a' := ?_) ?_ ?_
    rotate_left
    · show Act.put _ (some 14) _ = _
      simp only [Act.put, List.setIfInBounds_toArray, List.set_cons_zero, List.set_cons_succ, i64_w, i32_w]
      rfl
    refine one_ (i := 7) (N := some 17) #[true, true, true, true, true, true, true, true, false, false, false] rfl rfl (by kernel_rfl) (by decide) (fun K hK => ?_)
    refine goes_ Try.func12 (by kernel_rfl) rfl #[.agg #[.slice A0 a.f0.length c0, .slice A1 a.f1.length c1, .string a.f2], .agg #[.slice P0 b.f0.length p0, .slice P1 b.f1.length p1, .string b.f2]] (by rfl) rfl rfl (by simp only [List.map_toArray, List.map_cons, List.map_nil]; rfl) ?_
    with_reducible refine (rof_calls 5864062014806 A0 c0 A1 c1 a P0 p0 P1 p1 b r1 r2 _ (Kd.C_below hA0 W4.out) ha0 (Kd.C_below hA1 W4.out) ha1 (Kd.C_below hP0 W4.out) hp0 (Kd.C_below hP1 W4.out) hp1 hLa hLb hma hmb hs1 hs2).mono ?_
    rintro e w5 ⟨V1, v1, V2, v2, rfl, hR1, hR2, hb⟩
    refine ⟨_, rfl, ?_⟩
    have qa5 := Aside0.mk (qa4.out.below hb qa4.out.lt)
    have qb5 := Aside0.mk (qb4.out.below hb qb4.out.lt)
    have W5 := Aside0.mk (below_then W4.out W4.out.size hb)
    have R15 := Aside0.mk (Kd.R_below R14.out hb)
    have R25 := Aside0.mk (Kd.R_below R24.out hb)
    have T15 := Aside0.mk hR1
    have T25 := Aside0.mk hR2
    clear hb hR1 hR2
    refine hK.out _ _ ⟨qa5.out, qb5.out⟩ (fun hHeld => ?_)
    clear hK K
    refine norm_ (a' := ?_) ?_ ?_
    rotate_left
    · show Act.put _ (some 17) _ = _
      simp only [Act.put, List.setIfInBounds_toArray, List.set_cons_zero, List.set_cons_succ, i64_w, i32_w]
      rfl
    refine one_ (i := 8) (N := some 18) #[true, true, true, true, true, true, true, true, true, false, false] rfl rfl (by kernel_rfl) (by decide) (fun K hK => ?_)
    refine goes_ Try.func10 (by kernel_rfl) rfl #[.agg (dArr (imgSum (aOf a b).f0 (aOf a b).f1 (aOf a b).f2) (.slice U1 r1.length u1) (.slice U2 r2.length u2) b.f2 (imgSum b.f0 b.f1 b.f2)), .agg (dArr (imgSum (aOf a b).f0 (aOf a b).f1 (aOf a b).f2) (.slice V1 r1.length v1) (.slice V2 r2.length v2) b.f2 (imgSum b.f0 b.f1 b.f2))] (by rfl) rfl rfl (by simp only [List.map_toArray, List.map_cons, List.map_nil]; rfl) ?_
    with_reducible refine (same_calls (imgSum (aOf a b).f0 (aOf a b).f1 (aOf a b).f2) (imgSum b.f0 b.f1 b.f2) (imgSum_dig _ _ _) (imgSum_dig _ _ _) U1 u1 U2 u2 V1 v1 V2 v2 r1 r2 b.f2 _ (Kd.R_C R15.out) (Kd.R_cap R15.out) (Kd.R_C R25.out) (Kd.R_cap R25.out) (Kd.R_C T15.out) (Kd.R_cap T15.out) (Kd.R_C T25.out) (Kd.R_cap T25.out) m1 m2).mono ?_
    rintro e w6 ⟨rfl, hb⟩
    refine ⟨_, rfl, ?_⟩
    have qa6 := Aside0.mk (qa5.out.below hb qa5.out.lt)
    have qb6 := Aside0.mk (qb5.out.below hb qb5.out.lt)
    have W6 := Aside0.mk (below_then W5.out W5.out.size hb)
    clear hb
    refine hK.out _ _ ⟨qa6.out, qb6.out⟩ (fun hHeld => ?_)
    clear hK K
    refine norm_ (a' := ?_) ?_ ?_
    rotate_left
    · show Act.put _ (some 18) _ = _
      simp only [Act.put, List.setIfInBounds_toArray, List.set_cons_zero, List.set_cons_succ, i64_w, i32_w]
      rfl
    refine pure_ (i := 9) (N := some 19) (v := ?_) (a' := ?_) #[true, true, true, true, true, true, true, true, true, true, false] rfl rfl (by kernel_rfl) (fun _ _ _ h => h) (Or.inl ⟨by rfl, ?_⟩) ?_ ?_
    rotate_left
    · intro w'
      go_simp
      with_reducible rfl
    rotate_left
    · simp only [Act.put, List.setIfInBounds_toArray, List.set_cons_zero, List.set_cons_succ, i64_w, i32_w]
      rfl
    refine pure_ (i := 10) (N := some 4) (v := ?_) (a' := ?_) #[true, true, true, true, true, true, true, true, true, true, true] rfl rfl (by kernel_rfl) (fun _ _ _ h => h) (Or.inl ⟨by rfl, ?_⟩) ?_ ?_
    rotate_left
    · intro w'
      go_simp
      with_reducible rfl
    rotate_left
    · simp only [Act.put, List.setIfInBounds_toArray, List.set_cons_zero, List.set_cons_succ, i64_w, i32_w]
      rfl
    refine done_ (by kernel_rfl) ?_

    clear hHeld
    go_wp2_with fail
    go_ret
    exact ⟨rfl, W6.out⟩
end Go.Proofs.Ytoljjgabgdifbaa.H
