/- Layer 35's statements: the chapter's examples. Layer 35: the plain law of what a delta lists. Two rows of writes, one behind the other, in memory of the call's own. Layer 35 of the program: the last writes of each number, rising. Layer 2's answer: a mixing. -/
import Derived.Test.YtoljjgabgdifbaaGreatDoorZbPH12
import Derived.Test.YtoljjgabgdifbaaGreatDoorZbPH10toH11
import Derived.Sort.OwnSortedInts
import Derived.Carry
import Derived.Test.YtoljjgabgdifbaaGreatDoorZbPH3toS0
import Derived.IntWalk

namespace Go.Proofs.YtoljjgabgdifbaaGreatDoor.H
open Go.RowKit Go.Proofs.YtoljjgabgdifbaaGreatDoorW.PrintWords Go.Proofs.YtoljjgabgdifbaaGreatDoorW.PrintLast Go.Proofs.YtoljjgabgdifbaaGreatDoorW.PrintMore
set_option linter.unusedVariables false
set_option linter.unusedSimpArgs false

def xB : ByteArray := ⟨#[120]⟩
def rB : ByteArray := ⟨#[114]⟩
def fA : S24 := ⟨[xB], [], rB⟩
def fZ : S24 := ⟨[], [], ⟨#[]⟩⟩
/-- A delta with two digests, whatever they are. -/
def DL (W : World) (base : Nat) (v : Value) (r1 r2 : List S46) (s : ByteArray) : Prop :=
  ∃ L M, L.length = 32 ∧ M.length = 32 ∧ DeltaAt W base v L r1 r2 s M
theorem DL.below {W W' : World} {base : Nat} {v : Value} {r1 r2 : List S46} {s : ByteArray} (h : DL W base v r1 r2 s) (hb : Below W.heap.size W W') : DL W' base v r1 r2 s := by
  obtain ⟨L, M, hL, hM, h⟩ := h
  exact ⟨L, M, hL, hM, h.below hb⟩
theorem DL.lower {W : World} {base b : Nat} {v : Value} {r1 r2 : List S46} {s : ByteArray} (h : DL W base v r1 r2 s) (hb : b ≤ base) : DL W b v r1 r2 s := by
  obtain ⟨L, M, hL, hM, A1, c1, A2, c2, e, h1, h2⟩ := h
  exact ⟨L, M, hL, hM, A1, c1, A2, c2, e, Kd.R_lower h1 hb, Kd.R_lower h2 hb⟩
theorem ofA_calls (h : Nat) (w : World) (hc : Kd.C Kd.string w (some ⟨h, 0, none⟩) 1 [xB]) :
    Calls Tryz.prog 7 #[.agg #[.slice (some ⟨h, 0, none⟩) 1 1, .slice none 0 0, .string rB], .agg #[.slice (some ⟨h, 0, none⟩) 1 1, .slice none 0 0, .string rB]] w fun e w' => ∃ v, e = .returned v ∧ DL w' w.heap.size v [] [] rB ∧ Below w.heap.size w w' := by
  refine (of_calls 3 (some ⟨h, 0, none⟩) 1 none 0 fA (some ⟨h, 0, none⟩) 1 none 0 fA [] [] w hc (Nat.le_refl _) (Kd.C_nil _ _) (Nat.le_refl _) hc (Nat.le_refl _) (Kd.C_nil _ _) (Nat.le_refl _) (by decide +kernel) (by decide +kernel) (by unfold delta_writes.f; simp [delta_writes.l0, aOf, fA, fZ, rdOf, wrap64]) (by unfold delta_writes.f; simp [delta_writes.l0, aOf, fA, fZ, rdOf, wrap64])).mono ?_
  rintro e w' ⟨A1, c1, A2, c2, rfl, h1, h2, hb⟩
  exact ⟨_, rfl, ⟨_, _, imgSum_len _ _ _, imgSum_len _ _ _, A1, c1, A2, c2, rfl, h1, h2⟩, hb⟩
theorem ofB_calls (h : Nat) (w : World) (hc : Kd.C Kd.string w (some ⟨h, 0, none⟩) 1 [xB]) :
    Calls Tryz.prog 7 #[.agg #[.slice none 0 0, .slice none 0 0, .string ⟨#[]⟩], .agg #[.slice (some ⟨h, 0, none⟩) 1 1, .slice none 0 0, .string rB]] w fun e w' => ∃ v, e = .returned v ∧ DL w' w.heap.size v [⟨0, xB⟩] [] rB ∧ Below w.heap.size w w' := by
  refine (of_calls 3 none 0 none 0 fZ (some ⟨h, 0, none⟩) 1 none 0 fA [⟨0, xB⟩] [] w (Kd.C_nil _ _) (Nat.le_refl _) (Kd.C_nil _ _) (Nat.le_refl _) hc (Nat.le_refl _) (Kd.C_nil _ _) (Nat.le_refl _) (by decide +kernel) (by decide +kernel) (by unfold delta_writes.f; simp [delta_writes.l0, aOf, fA, fZ, rdOf, wrap64]) (by unfold delta_writes.f; simp [delta_writes.l0, aOf, fA, fZ, rdOf, wrap64])).mono ?_
  rintro e w' ⟨A1, c1, A2, c2, rfl, h1, h2, hb⟩
  exact ⟨_, rfl, ⟨_, _, imgSum_len _ _ _, imgSum_len _ _ _, A1, c1, A2, c2, rfl, h1, h2⟩, hb⟩
theorem dArr_f1 {L M : List Int} {v1 v2 : Value} {s : ByteArray} (hL : L.length = 32) : (dArr L v1 v2 s M)[32]? = some v1 := by
  simp [dArr, nums, List.getElem?_append, hL]
theorem dArr_f2 {L M : List Int} {v1 v2 : Value} {s : ByteArray} (hL : L.length = 32) : (dArr L v1 v2 s M)[33]? = some v2 := by
  simp [dArr, nums, List.getElem?_append, hL]
/-- How far the examples' deltas are told, in whatever order. -/
structure FX (w0 : World) (h : Nat) (W : World) (g : Nat) (cs : Array Value) (v2 v5 : Option Value) (g6 g7 : Option Nat) : Prop where
  below : Below w0.heap.size w0 W
  low : w0.heap.size ≤ g
  box : Blk W g 24 cs
  c0 : Kd.C Kd.string W (some ⟨h, 0, none⟩) 1 [xB]
  d2 : ∀ v, v2 = some v → DL W w0.heap.size v [] [] rB
  d5 : ∀ v, v5 = some v → DL W w0.heap.size v [⟨0, xB⟩] [] rB
  a6 : ∀ k, g6 = some k → Blk W k 31 (dArr (outL [] 0) (.slice none 0 0) (.slice none 0 0) ⟨#[]⟩ (outL [] 0)) ∧ g < k
  a7 : ∀ k, g7 = some k → Blk W k 31 (dArr (outL [] 0) (.slice none 0 0) (.slice none 0 0) ⟨#[]⟩ (outL [] 0)) ∧ g < k
  ne : ∀ j k, g6 = some j → g7 = some k → j ≠ k
section
variable {w0 W W' : World} {h g : Nat} {cs : Array Value} {v2 v5 : Option Value} {g6 g7 : Option Nat}
theorem FX.on (X : FX w0 h W g cs v2 v5 g6 g7) (hb : Below W.heap.size W W') : FX w0 h W' g cs v2 v5 g6 g7 :=
  ⟨below_then X.below X.below.size hb, X.low, X.box.below hb X.box.lt, Kd.C_below X.c0 hb, fun v e => (X.d2 v e).below hb, fun v e => (X.d5 v e).below hb,
    fun k e => ⟨(X.a6 k e).1.below hb (X.a6 k e).1.lt, (X.a6 k e).2⟩, fun k e => ⟨(X.a7 k e).1.below hb (X.a7 k e).1.lt, (X.a7 k e).2⟩, X.ne⟩
theorem FX.set2 (X : FX w0 h W g cs v2 v5 g6 g7) {v : Value} (d : DL W w0.heap.size v [] [] rB) : FX w0 h W g cs (some v) v5 g6 g7 :=
  ⟨X.below, X.low, X.box, X.c0, fun u e => by injection e with e; subst e; exact d, X.d5, X.a6, X.a7, X.ne⟩
theorem FX.set5 (X : FX w0 h W g cs v2 v5 g6 g7) {v : Value} (d : DL W w0.heap.size v [⟨0, xB⟩] [] rB) : FX w0 h W g cs v2 (some v) g6 g7 :=
  ⟨X.below, X.low, X.box, X.c0, X.d2, fun u e => by injection e with e; subst e; exact d, X.a6, X.a7, X.ne⟩
theorem FX.alloc6 (X : FX w0 h W g cs v2 v5 none g7) : FX w0 h (W.alloc (.cells Tryz.zeroCells31 31)) g cs v2 v5 (some W.heap.size) g7 := by
  have Y := X.on (below_alloc (Below.refl _ _) (.cells Tryz.zeroCells31 31))
  refine ⟨Y.below, Y.low, Y.box, Y.c0, Y.d2, Y.d5, fun k e => ?_, Y.a7, fun j k e1 e2 => ?_⟩
  · injection e with e
    subst e
    rw [← z31]
    exact ⟨Blk.new _ _ _, X.box.lt⟩
  · injection e1 with e1
    subst e1
    have := (X.a7 k e2).1.lt
    omega
theorem FX.alloc7 (X : FX w0 h W g cs v2 v5 g6 none) : FX w0 h (W.alloc (.cells Tryz.zeroCells31 31)) g cs v2 v5 g6 (some W.heap.size) := by
  have Y := X.on (below_alloc (Below.refl _ _) (.cells Tryz.zeroCells31 31))
  refine ⟨Y.below, Y.low, Y.box, Y.c0, Y.d2, Y.d5, Y.a6, fun k e => ?_, fun j k e1 e2 => ?_⟩
  · injection e with e
    subst e
    rw [← z31]
    exact ⟨Blk.new _ _ _, X.box.lt⟩
  · injection e2 with e2
    subst e2
    have := (X.a6 j e1).1.lt
    omega
end

set_option maxRecDepth 100000 in
set_option maxHeartbeats 8000000 in
theorem fixed_calls (w : World) : Calls Tryz.prog 6 #[] w fun e w' => e = .returned (.bool true) ∧ Below w.heap.size w w' := by
  go_enter Tryz.func6, Tryz.ntmps6
  go_wp2_with fail
  have X : FX w w.heap.size ((w.alloc (.cells #[.string xB] 9)).alloc (.cells #[.slice (some ⟨w.heap.size, 0, none⟩) 1 1, .slice none 0 0, .string rB] 24)) (w.heap.size + 1) #[.slice (some ⟨w.heap.size, 0, none⟩) 1 1, .slice none 0 0, .string rB] none none none none := by
    have B := Blk.new (w.alloc (.cells #[.string xB] 9)) 24 #[.slice (some ⟨w.heap.size, 0, none⟩) 1 1, .slice none 0 0, .string rB]
    rw [sz] at B
    exact ⟨((Below.refl w.heap.size w).alloc (Nat.le_refl _) _).alloc (by rw [sz]; omega) _, by omega, B, Kd.C_alloc (strings_new w [xB] (by simp)) _, by simp, by simp, by simp, by simp, by simp⟩
  rw [show (w.alloc (.cells #[.string ⟨#[120]⟩] 9)).alloc (.cells #[.slice (some ⟨w.heap.size, 0, none⟩) 1 1, .slice none 0 0, .string ⟨#[114]⟩] 24) = (w.alloc (.cells #[.string xB] 9)).alloc (.cells #[.slice (some ⟨w.heap.size, 0, none⟩) 1 1, .slice none 0 0, .string rB] 24) from rfl]
  generalize (w.alloc (.cells #[.string xB] 9)).alloc (.cells #[.slice (some ⟨w.heap.size, 0, none⟩) 1 1, .slice none 0 0, .string rB] 24) = w1 at X ⊢
  generalize w.heap.size + 1 = g at X ⊢
  obtain ⟨h, eh⟩ : ∃ h, h = w.heap.size := ⟨_, rfl⟩
  rw [← eh]
  replace X : FX w h w1 g #[.slice (some ⟨h, 0, none⟩) 1 1, .slice none 0 0, .string rB] none none none none := by rw [eh]; exact X
  clear eh
  have X0 := Aside0.mk (X.on (below_drew (Below.refl _ w1)))
  clear X
  refine start_ (n := 10) (S := fun w' => Blk w' g 24 #[.slice (some ⟨h, 0, none⟩) 1 1, .slice none 0 0, .string rB]) (ds := [8, 9]) #[false, false, false, false, false, false, false, false, false, false] (by kernel_rfl) rfl rfl (X0.out.box) (fun hHeld => ?_)
  generalize w1.drew = wd at hHeld X0 ⊢
  refine pure_ (i := 3) (N := some 9) (v := ?_) (a' := ?_) #[false, false, false, true, false, false, false, false, false, false] rfl rfl (by kernel_rfl) (fun _ _ _ h => h) (Or.inl ⟨by rfl, ?_⟩) ?_ ?_
  rotate_left
  · intro w'
    go_simp
    with_reducible rfl
  rotate_left
  · simp only [Act.put, List.setIfInBounds_toArray, List.set_cons_zero, List.set_cons_succ, i64_w, i32_w]
    rfl
  refine take_ (i := 0) (N := some 6) (v := ?_) (a' := ?_) #[true, false, false, true, false, false, false, false, false, false] rfl rfl (by kernel_rfl) (fun _ _ _ h => h) (Or.inl ⟨by rfl, ?_⟩) hHeld ?_ ?_
  rotate_left
  · intro w' s0
    refine row_loads 24 (.tmp 1) ?_ g ?_ s0 Tryz.underlying24 ?_ ?_
    · rfl
    · rfl
    · rfl
    · kernel_rfl
  rotate_left
  · simp only [Act.put, List.setIfInBounds_toArray, List.set_cons_zero, List.set_cons_succ, i64_w, i32_w]
    rfl
  refine take_ (i := 1) (N := some 7) (v := ?_) (a' := ?_) #[true, true, false, true, false, false, false, false, false, false] rfl rfl (by kernel_rfl) (fun _ _ _ h => h) (Or.inl ⟨by rfl, ?_⟩) hHeld ?_ ?_
  rotate_left
  · intro w' s0
    refine row_loads 24 (.tmp 1) ?_ g ?_ s0 Tryz.underlying24 ?_ ?_
    · rfl
    · rfl
    · rfl
    · kernel_rfl
  rotate_left
  · simp only [Act.put, List.setIfInBounds_toArray, List.set_cons_zero, List.set_cons_succ, i64_w, i32_w]
    rfl
  refine take_ (i := 4) (N := some 10) (v := ?_) (a' := ?_) #[true, true, false, true, true, false, false, false, false, false] rfl rfl (by kernel_rfl) (fun _ _ _ h => h) (Or.inl ⟨by rfl, ?_⟩) hHeld ?_ ?_
  rotate_left
  · intro w' s0
    refine row_loads 24 (.tmp 1) ?_ g ?_ s0 Tryz.underlying24 ?_ ?_
    · rfl
    · rfl
    · rfl
    · kernel_rfl
  rotate_left
  · simp only [Act.put, List.setIfInBounds_toArray, List.set_cons_zero, List.set_cons_succ, i64_w, i32_w]
    rfl
  refine join_ (σ := Value × Value × Nat × Nat) 2 #[true, true, true, true, true, true, true, true, false, false] (fun s => [(8, s.1), (11, s.2.1), (2, .pointer (some ⟨s.2.2.1, 0, none⟩)), (3, .pointer (some ⟨s.2.2.2, 0, none⟩))]) (fun s w' => FX w h w' g #[.slice (some ⟨h, 0, none⟩) 1 1, .slice none 0 0, .string rB] (some s.1) (some s.2.1) (some s.2.2.1) (some s.2.2.2)) ?_ ?_
  rotate_left
  · intro hCont
    refine three_ (i := 2) (j := 6) (k := 7) (Ni := some 8) (Nj := some 2) (Nk := some 3) #[true, true, true, true, true, false, false, false, false, false] #[true, true, false, true, true, false, true, false, false, false] #[true, true, false, true, true, false, false, true, false, false] rfl rfl rfl rfl rfl rfl (by kernel_rfl) (by decide) (by decide) (by decide) (fun K hK => ?_) (fun K hK => ?_) (fun K hK => ?_)
    · skip
      refine goes_ Tryz.func7 (by kernel_rfl) rfl #[.agg #[.slice (some ⟨h, 0, none⟩) 1 1, .slice none 0 0, .string rB], .agg #[.slice (some ⟨h, 0, none⟩) 1 1, .slice none 0 0, .string rB]] (by rfl) rfl rfl (by simp only [List.map_toArray, List.map_cons, List.map_nil]; rfl) ?_
      with_reducible refine (ofA_calls h _ X0.out.c0).mono ?_
      rintro e w3 ⟨va, rfl, hd, hb⟩
      refine ⟨_, rfl, ?_⟩
      have X1 := Aside0.mk ((X0.out.on hb).set2 (hd.lower X0.out.below.size))
      clear hd hb
      refine hK.out _ _ (X1.out.box) (fun hHeld => ?_)
      clear hK K
      refine norm_ (a' := ?_) ?_ ?_
      rotate_left
      · show Act.put _ (some 8) _ = _
        simp only [Act.put, List.setIfInBounds_toArray, List.set_cons_zero, List.set_cons_succ, i64_w, i32_w]
        rfl
      refine three_ (i := 5) (j := 6) (k := 7) (Ni := some 11) (Nj := some 2) (Nk := some 3) #[true, true, true, true, true, true, false, false, false, false] #[true, true, true, true, true, false, true, false, false, false] #[true, true, true, true, true, false, false, true, false, false] rfl rfl rfl rfl rfl rfl (by kernel_rfl) (by decide) (by decide) (by decide) (fun K hK => ?_) (fun K hK => ?_) (fun K hK => ?_)
      · skip
        refine goes_ Tryz.func7 (by kernel_rfl) rfl #[.agg #[.slice none 0 0, .slice none 0 0, .string ⟨#[]⟩], .agg #[.slice (some ⟨h, 0, none⟩) 1 1, .slice none 0 0, .string rB]] (by rfl) rfl rfl (by simp only [List.map_toArray, List.map_cons, List.map_nil]; rfl) ?_
        with_reducible refine (ofB_calls h _ X1.out.c0).mono ?_
        rintro e w4 ⟨vb, rfl, hd, hb⟩
        refine ⟨_, rfl, ?_⟩
        have X2 := Aside0.mk ((X1.out.on hb).set5 (hd.lower X1.out.below.size))
        clear hd hb
        refine hK.out _ _ (X2.out.box) (fun hHeld => ?_)
        clear hK K
        refine norm_ (a' := ?_) ?_ ?_
        rotate_left
        · show Act.put _ (some 11) _ = _
          simp only [Act.put, List.setIfInBounds_toArray, List.set_cons_zero, List.set_cons_succ, i64_w, i32_w]
          rfl
        refine two_ (i := 6) (j := 7) (Ni := some 2) (Nj := some 3) #[true, true, true, true, true, true, true, false, false, false] #[true, true, true, true, true, true, false, true, false, false] rfl rfl rfl rfl (by kernel_rfl) (by decide) (by decide) (fun K hK => ?_) (fun K hK => ?_)
        · skip
          refine value_ (w1 := ?_) (v := ?_) (by rfl) rfl ?_ ?_
          rotate_left 2
          · go_simp
            constructor
            · rfl
            · rfl
          have X3 := Aside0.mk (X2.out.alloc6)
          generalize w4.alloc (.cells Tryz.zeroCells31 31) = w5 at X3 ⊢
          generalize w4.heap.size = k6 at X3 ⊢
          refine hK.out _ _ (X3.out.box) (fun hHeld => ?_)
          clear hK K
          refine norm_ (a' := ?_) ?_ ?_
          rotate_left
          · show Act.put _ (some 2) _ = _
            simp only [Act.put, List.setIfInBounds_toArray, List.set_cons_zero, List.set_cons_succ, i64_w, i32_w]
            rfl
          refine one_ (i := 7) (N := some 3) #[true, true, true, true, true, true, true, true, false, false] rfl rfl (by kernel_rfl) (by decide) (fun K hK => ?_)
          refine value_ (w1 := ?_) (v := ?_) (by rfl) rfl ?_ ?_
          rotate_left 2
          · go_simp
            constructor
            · rfl
            · rfl
          have X4 := Aside0.mk (X3.out.alloc7)
          generalize w5.alloc (.cells Tryz.zeroCells31 31) = w6 at X4 ⊢
          generalize w5.heap.size = k7 at X4 ⊢
          refine hK.out _ _ (X4.out.box) (fun hHeld => ?_)
          clear hK K
          refine norm_ (a' := ?_) ?_ ?_
          rotate_left
          · show Act.put _ (some 3) _ = _
            simp only [Act.put, List.setIfInBounds_toArray, List.set_cons_zero, List.set_cons_succ, i64_w, i32_w]
            rfl
          exact norm_ (by simp only [putAll, Act.put, List.setIfInBounds_toArray, List.set_cons_zero, List.set_cons_succ, sz]) (hCont ⟨va, vb, k6, k7⟩ _ X4.out)
        · skip
          refine value_ (w1 := ?_) (v := ?_) (by rfl) rfl ?_ ?_
          rotate_left 2
          · go_simp
            constructor
            · rfl
            · rfl
          have X3 := Aside0.mk (X2.out.alloc7)
          generalize w4.alloc (.cells Tryz.zeroCells31 31) = w5 at X3 ⊢
          generalize w4.heap.size = k7 at X3 ⊢
          refine hK.out _ _ (X3.out.box) (fun hHeld => ?_)
          clear hK K
          refine norm_ (a' := ?_) ?_ ?_
          rotate_left
          · show Act.put _ (some 3) _ = _
            simp only [Act.put, List.setIfInBounds_toArray, List.set_cons_zero, List.set_cons_succ, i64_w, i32_w]
            rfl
          refine one_ (i := 6) (N := some 2) #[true, true, true, true, true, true, true, true, false, false] rfl rfl (by kernel_rfl) (by decide) (fun K hK => ?_)
          refine value_ (w1 := ?_) (v := ?_) (by rfl) rfl ?_ ?_
          rotate_left 2
          · go_simp
            constructor
            · rfl
            · rfl
          have X4 := Aside0.mk (X3.out.alloc6)
          generalize w5.alloc (.cells Tryz.zeroCells31 31) = w6 at X4 ⊢
          generalize w5.heap.size = k6 at X4 ⊢
          refine hK.out _ _ (X4.out.box) (fun hHeld => ?_)
          clear hK K
          refine norm_ (a' := ?_) ?_ ?_
          rotate_left
          · show Act.put _ (some 2) _ = _
            simp only [Act.put, List.setIfInBounds_toArray, List.set_cons_zero, List.set_cons_succ, i64_w, i32_w]
            rfl
          exact norm_ (by simp only [putAll, Act.put, List.setIfInBounds_toArray, List.set_cons_zero, List.set_cons_succ, sz]) (hCont ⟨va, vb, k6, k7⟩ _ X4.out)
      · skip
        refine value_ (w1 := ?_) (v := ?_) (by rfl) rfl ?_ ?_
        rotate_left 2
        · go_simp
          constructor
          · rfl
          · rfl
        have X2 := Aside0.mk (X1.out.alloc6)
        generalize w3.alloc (.cells Tryz.zeroCells31 31) = w4 at X2 ⊢
        generalize w3.heap.size = k6 at X2 ⊢
        refine hK.out _ _ (X2.out.box) (fun hHeld => ?_)
        clear hK K
        refine norm_ (a' := ?_) ?_ ?_
        rotate_left
        · show Act.put _ (some 2) _ = _
          simp only [Act.put, List.setIfInBounds_toArray, List.set_cons_zero, List.set_cons_succ, i64_w, i32_w]
          rfl
        refine two_ (i := 5) (j := 7) (Ni := some 11) (Nj := some 3) #[true, true, true, true, true, true, true, false, false, false] #[true, true, true, true, true, false, true, true, false, false] rfl rfl rfl rfl (by kernel_rfl) (by decide) (by decide) (fun K hK => ?_) (fun K hK => ?_)
        · skip
          refine goes_ Tryz.func7 (by kernel_rfl) rfl #[.agg #[.slice none 0 0, .slice none 0 0, .string ⟨#[]⟩], .agg #[.slice (some ⟨h, 0, none⟩) 1 1, .slice none 0 0, .string rB]] (by rfl) rfl rfl (by simp only [List.map_toArray, List.map_cons, List.map_nil]; rfl) ?_
          with_reducible refine (ofB_calls h _ X2.out.c0).mono ?_
          rintro e w5 ⟨vb, rfl, hd, hb⟩
          refine ⟨_, rfl, ?_⟩
          have X3 := Aside0.mk ((X2.out.on hb).set5 (hd.lower X2.out.below.size))
          clear hd hb
          refine hK.out _ _ (X3.out.box) (fun hHeld => ?_)
          clear hK K
          refine norm_ (a' := ?_) ?_ ?_
          rotate_left
          · show Act.put _ (some 11) _ = _
            simp only [Act.put, List.setIfInBounds_toArray, List.set_cons_zero, List.set_cons_succ, i64_w, i32_w]
            rfl
          refine one_ (i := 7) (N := some 3) #[true, true, true, true, true, true, true, true, false, false] rfl rfl (by kernel_rfl) (by decide) (fun K hK => ?_)
          refine value_ (w1 := ?_) (v := ?_) (by rfl) rfl ?_ ?_
          rotate_left 2
          · go_simp
            constructor
            · rfl
            · rfl
          have X4 := Aside0.mk (X3.out.alloc7)
          generalize w5.alloc (.cells Tryz.zeroCells31 31) = w6 at X4 ⊢
          generalize w5.heap.size = k7 at X4 ⊢
          refine hK.out _ _ (X4.out.box) (fun hHeld => ?_)
          clear hK K
          refine norm_ (a' := ?_) ?_ ?_
          rotate_left
          · show Act.put _ (some 3) _ = _
            simp only [Act.put, List.setIfInBounds_toArray, List.set_cons_zero, List.set_cons_succ, i64_w, i32_w]
            rfl
          exact norm_ (by simp only [putAll, Act.put, List.setIfInBounds_toArray, List.set_cons_zero, List.set_cons_succ, sz]) (hCont ⟨va, vb, k6, k7⟩ _ X4.out)
        · skip
          refine value_ (w1 := ?_) (v := ?_) (by rfl) rfl ?_ ?_
          rotate_left 2
          · go_simp
            constructor
            · rfl
            · rfl
          have X3 := Aside0.mk (X2.out.alloc7)
          generalize w4.alloc (.cells Tryz.zeroCells31 31) = w5 at X3 ⊢
          generalize w4.heap.size = k7 at X3 ⊢
          refine hK.out _ _ (X3.out.box) (fun hHeld => ?_)
          clear hK K
          refine norm_ (a' := ?_) ?_ ?_
          rotate_left
          · show Act.put _ (some 3) _ = _
            simp only [Act.put, List.setIfInBounds_toArray, List.set_cons_zero, List.set_cons_succ, i64_w, i32_w]
            rfl
          refine one_ (i := 5) (N := some 11) #[true, true, true, true, true, true, true, true, false, false] rfl rfl (by kernel_rfl) (by decide) (fun K hK => ?_)
          refine goes_ Tryz.func7 (by kernel_rfl) rfl #[.agg #[.slice none 0 0, .slice none 0 0, .string ⟨#[]⟩], .agg #[.slice (some ⟨h, 0, none⟩) 1 1, .slice none 0 0, .string rB]] (by rfl) rfl rfl (by simp only [List.map_toArray, List.map_cons, List.map_nil]; rfl) ?_
          with_reducible refine (ofB_calls h _ X3.out.c0).mono ?_
          rintro e w6 ⟨vb, rfl, hd, hb⟩
          refine ⟨_, rfl, ?_⟩
          have X4 := Aside0.mk ((X3.out.on hb).set5 (hd.lower X3.out.below.size))
          clear hd hb
          refine hK.out _ _ (X4.out.box) (fun hHeld => ?_)
          clear hK K
          refine norm_ (a' := ?_) ?_ ?_
          rotate_left
          · show Act.put _ (some 11) _ = _
            simp only [Act.put, List.setIfInBounds_toArray, List.set_cons_zero, List.set_cons_succ, i64_w, i32_w]
            rfl
          exact norm_ (by simp only [putAll, Act.put, List.setIfInBounds_toArray, List.set_cons_zero, List.set_cons_succ, sz]) (hCont ⟨va, vb, k6, k7⟩ _ X4.out)
      · skip
        refine value_ (w1 := ?_) (v := ?_) (by rfl) rfl ?_ ?_
        rotate_left 2
        · go_simp
          constructor
          · rfl
          · rfl
        have X2 := Aside0.mk (X1.out.alloc7)
        generalize w3.alloc (.cells Tryz.zeroCells31 31) = w4 at X2 ⊢
        generalize w3.heap.size = k7 at X2 ⊢
        refine hK.out _ _ (X2.out.box) (fun hHeld => ?_)
        clear hK K
        refine norm_ (a' := ?_) ?_ ?_
        rotate_left
        · show Act.put _ (some 3) _ = _
          simp only [Act.put, List.setIfInBounds_toArray, List.set_cons_zero, List.set_cons_succ, i64_w, i32_w]
          rfl
        refine two_ (i := 5) (j := 6) (Ni := some 11) (Nj := some 2) #[true, true, true, true, true, true, false, true, false, false] #[true, true, true, true, true, false, true, true, false, false] rfl rfl rfl rfl (by kernel_rfl) (by decide) (by decide) (fun K hK => ?_) (fun K hK => ?_)
        · skip
          refine goes_ Tryz.func7 (by kernel_rfl) rfl #[.agg #[.slice none 0 0, .slice none 0 0, .string ⟨#[]⟩], .agg #[.slice (some ⟨h, 0, none⟩) 1 1, .slice none 0 0, .string rB]] (by rfl) rfl rfl (by simp only [List.map_toArray, List.map_cons, List.map_nil]; rfl) ?_
          with_reducible refine (ofB_calls h _ X2.out.c0).mono ?_
          rintro e w5 ⟨vb, rfl, hd, hb⟩
          refine ⟨_, rfl, ?_⟩
          have X3 := Aside0.mk ((X2.out.on hb).set5 (hd.lower X2.out.below.size))
          clear hd hb
          refine hK.out _ _ (X3.out.box) (fun hHeld => ?_)
          clear hK K
          refine norm_ (a' := ?_) ?_ ?_
          rotate_left
          · show Act.put _ (some 11) _ = _
            simp only [Act.put, List.setIfInBounds_toArray, List.set_cons_zero, List.set_cons_succ, i64_w, i32_w]
            rfl
          refine one_ (i := 6) (N := some 2) #[true, true, true, true, true, true, true, true, false, false] rfl rfl (by kernel_rfl) (by decide) (fun K hK => ?_)
          refine value_ (w1 := ?_) (v := ?_) (by rfl) rfl ?_ ?_
          rotate_left 2
          · go_simp
            constructor
            · rfl
            · rfl
          have X4 := Aside0.mk (X3.out.alloc6)
          generalize w5.alloc (.cells Tryz.zeroCells31 31) = w6 at X4 ⊢
          generalize w5.heap.size = k6 at X4 ⊢
          refine hK.out _ _ (X4.out.box) (fun hHeld => ?_)
          clear hK K
          refine norm_ (a' := ?_) ?_ ?_
          rotate_left
          · show Act.put _ (some 2) _ = _
            simp only [Act.put, List.setIfInBounds_toArray, List.set_cons_zero, List.set_cons_succ, i64_w, i32_w]
            rfl
          exact norm_ (by simp only [putAll, Act.put, List.setIfInBounds_toArray, List.set_cons_zero, List.set_cons_succ, sz]) (hCont ⟨va, vb, k6, k7⟩ _ X4.out)
        · skip
          refine value_ (w1 := ?_) (v := ?_) (by rfl) rfl ?_ ?_
          rotate_left 2
          · go_simp
            constructor
            · rfl
            · rfl
          have X3 := Aside0.mk (X2.out.alloc6)
          generalize w4.alloc (.cells Tryz.zeroCells31 31) = w5 at X3 ⊢
          generalize w4.heap.size = k6 at X3 ⊢
          refine hK.out _ _ (X3.out.box) (fun hHeld => ?_)
          clear hK K
          refine norm_ (a' := ?_) ?_ ?_
          rotate_left
          · show Act.put _ (some 2) _ = _
            simp only [Act.put, List.setIfInBounds_toArray, List.set_cons_zero, List.set_cons_succ, i64_w, i32_w]
            rfl
          refine one_ (i := 5) (N := some 11) #[true, true, true, true, true, true, true, true, false, false] rfl rfl (by kernel_rfl) (by decide) (fun K hK => ?_)
          refine goes_ Tryz.func7 (by kernel_rfl) rfl #[.agg #[.slice none 0 0, .slice none 0 0, .string ⟨#[]⟩], .agg #[.slice (some ⟨h, 0, none⟩) 1 1, .slice none 0 0, .string rB]] (by rfl) rfl rfl (by simp only [List.map_toArray, List.map_cons, List.map_nil]; rfl) ?_
          with_reducible refine (ofB_calls h _ X3.out.c0).mono ?_
          rintro e w6 ⟨vb, rfl, hd, hb⟩
          refine ⟨_, rfl, ?_⟩
          have X4 := Aside0.mk ((X3.out.on hb).set5 (hd.lower X3.out.below.size))
          clear hd hb
          refine hK.out _ _ (X4.out.box) (fun hHeld => ?_)
          clear hK K
          refine norm_ (a' := ?_) ?_ ?_
          rotate_left
          · show Act.put _ (some 11) _ = _
            simp only [Act.put, List.setIfInBounds_toArray, List.set_cons_zero, List.set_cons_succ, i64_w, i32_w]
            rfl
          exact norm_ (by simp only [putAll, Act.put, List.setIfInBounds_toArray, List.set_cons_zero, List.set_cons_succ, sz]) (hCont ⟨va, vb, k6, k7⟩ _ X4.out)
    · skip
      refine value_ (w1 := ?_) (v := ?_) (by rfl) rfl ?_ ?_
      rotate_left 2
      · go_simp
        constructor
        · rfl
        · rfl
      have X1 := Aside0.mk (X0.out.alloc6)
      generalize wd.alloc (.cells Tryz.zeroCells31 31) = w3 at X1 ⊢
      generalize wd.heap.size = k6 at X1 ⊢
      refine hK.out _ _ (X1.out.box) (fun hHeld => ?_)
      clear hK K
      refine norm_ (a' := ?_) ?_ ?_
      rotate_left
      · show Act.put _ (some 2) _ = _
        simp only [Act.put, List.setIfInBounds_toArray, List.set_cons_zero, List.set_cons_succ, i64_w, i32_w]
        rfl
      refine two_ (i := 2) (j := 7) (Ni := some 8) (Nj := some 3) #[true, true, true, true, true, false, true, false, false, false] #[true, true, false, true, true, false, true, true, false, false] rfl rfl rfl rfl (by kernel_rfl) (by decide) (by decide) (fun K hK => ?_) (fun K hK => ?_)
      · skip
        refine goes_ Tryz.func7 (by kernel_rfl) rfl #[.agg #[.slice (some ⟨h, 0, none⟩) 1 1, .slice none 0 0, .string rB], .agg #[.slice (some ⟨h, 0, none⟩) 1 1, .slice none 0 0, .string rB]] (by rfl) rfl rfl (by simp only [List.map_toArray, List.map_cons, List.map_nil]; rfl) ?_
        with_reducible refine (ofA_calls h _ X1.out.c0).mono ?_
        rintro e w4 ⟨va, rfl, hd, hb⟩
        refine ⟨_, rfl, ?_⟩
        have X2 := Aside0.mk ((X1.out.on hb).set2 (hd.lower X1.out.below.size))
        clear hd hb
        refine hK.out _ _ (X2.out.box) (fun hHeld => ?_)
        clear hK K
        refine norm_ (a' := ?_) ?_ ?_
        rotate_left
        · show Act.put _ (some 8) _ = _
          simp only [Act.put, List.setIfInBounds_toArray, List.set_cons_zero, List.set_cons_succ, i64_w, i32_w]
          rfl
        refine two_ (i := 5) (j := 7) (Ni := some 11) (Nj := some 3) #[true, true, true, true, true, true, true, false, false, false] #[true, true, true, true, true, false, true, true, false, false] rfl rfl rfl rfl (by kernel_rfl) (by decide) (by decide) (fun K hK => ?_) (fun K hK => ?_)
        · skip
          refine goes_ Tryz.func7 (by kernel_rfl) rfl #[.agg #[.slice none 0 0, .slice none 0 0, .string ⟨#[]⟩], .agg #[.slice (some ⟨h, 0, none⟩) 1 1, .slice none 0 0, .string rB]] (by rfl) rfl rfl (by simp only [List.map_toArray, List.map_cons, List.map_nil]; rfl) ?_
          with_reducible refine (ofB_calls h _ X2.out.c0).mono ?_
          rintro e w5 ⟨vb, rfl, hd, hb⟩
          refine ⟨_, rfl, ?_⟩
          have X3 := Aside0.mk ((X2.out.on hb).set5 (hd.lower X2.out.below.size))
          clear hd hb
          refine hK.out _ _ (X3.out.box) (fun hHeld => ?_)
          clear hK K
          refine norm_ (a' := ?_) ?_ ?_
          rotate_left
          · show Act.put _ (some 11) _ = _
            simp only [Act.put, List.setIfInBounds_toArray, List.set_cons_zero, List.set_cons_succ, i64_w, i32_w]
            rfl
          refine one_ (i := 7) (N := some 3) #[true, true, true, true, true, true, true, true, false, false] rfl rfl (by kernel_rfl) (by decide) (fun K hK => ?_)
          refine value_ (w1 := ?_) (v := ?_) (by rfl) rfl ?_ ?_
          rotate_left 2
          · go_simp
            constructor
            · rfl
            · rfl
          have X4 := Aside0.mk (X3.out.alloc7)
          generalize w5.alloc (.cells Tryz.zeroCells31 31) = w6 at X4 ⊢
          generalize w5.heap.size = k7 at X4 ⊢
          refine hK.out _ _ (X4.out.box) (fun hHeld => ?_)
          clear hK K
          refine norm_ (a' := ?_) ?_ ?_
          rotate_left
          · show Act.put _ (some 3) _ = _
            simp only [Act.put, List.setIfInBounds_toArray, List.set_cons_zero, List.set_cons_succ, i64_w, i32_w]
            rfl
          exact norm_ (by simp only [putAll, Act.put, List.setIfInBounds_toArray, List.set_cons_zero, List.set_cons_succ, sz]) (hCont ⟨va, vb, k6, k7⟩ _ X4.out)
        · skip
          refine value_ (w1 := ?_) (v := ?_) (by rfl) rfl ?_ ?_
          rotate_left 2
          · go_simp
            constructor
            · rfl
            · rfl
          have X3 := Aside0.mk (X2.out.alloc7)
          generalize w4.alloc (.cells Tryz.zeroCells31 31) = w5 at X3 ⊢
          generalize w4.heap.size = k7 at X3 ⊢
          refine hK.out _ _ (X3.out.box) (fun hHeld => ?_)
          clear hK K
          refine norm_ (a' := ?_) ?_ ?_
          rotate_left
          · show Act.put _ (some 3) _ = _
            simp only [Act.put, List.setIfInBounds_toArray, List.set_cons_zero, List.set_cons_succ, i64_w, i32_w]
            rfl
          refine one_ (i := 5) (N := some 11) #[true, true, true, true, true, true, true, true, false, false] rfl rfl (by kernel_rfl) (by decide) (fun K hK => ?_)
          refine goes_ Tryz.func7 (by kernel_rfl) rfl #[.agg #[.slice none 0 0, .slice none 0 0, .string ⟨#[]⟩], .agg #[.slice (some ⟨h, 0, none⟩) 1 1, .slice none 0 0, .string rB]] (by rfl) rfl rfl (by simp only [List.map_toArray, List.map_cons, List.map_nil]; rfl) ?_
          with_reducible refine (ofB_calls h _ X3.out.c0).mono ?_
          rintro e w6 ⟨vb, rfl, hd, hb⟩
          refine ⟨_, rfl, ?_⟩
          have X4 := Aside0.mk ((X3.out.on hb).set5 (hd.lower X3.out.below.size))
          clear hd hb
          refine hK.out _ _ (X4.out.box) (fun hHeld => ?_)
          clear hK K
          refine norm_ (a' := ?_) ?_ ?_
          rotate_left
          · show Act.put _ (some 11) _ = _
            simp only [Act.put, List.setIfInBounds_toArray, List.set_cons_zero, List.set_cons_succ, i64_w, i32_w]
            rfl
          exact norm_ (by simp only [putAll, Act.put, List.setIfInBounds_toArray, List.set_cons_zero, List.set_cons_succ, sz]) (hCont ⟨va, vb, k6, k7⟩ _ X4.out)
      · skip
        refine value_ (w1 := ?_) (v := ?_) (by rfl) rfl ?_ ?_
        rotate_left 2
        · go_simp
          constructor
          · rfl
          · rfl
        have X2 := Aside0.mk (X1.out.alloc7)
        generalize w3.alloc (.cells Tryz.zeroCells31 31) = w4 at X2 ⊢
        generalize w3.heap.size = k7 at X2 ⊢
        refine hK.out _ _ (X2.out.box) (fun hHeld => ?_)
        clear hK K
        refine norm_ (a' := ?_) ?_ ?_
        rotate_left
        · show Act.put _ (some 3) _ = _
          simp only [Act.put, List.setIfInBounds_toArray, List.set_cons_zero, List.set_cons_succ, i64_w, i32_w]
          rfl
        refine one_ (i := 2) (N := some 8) #[true, true, true, true, true, false, true, true, false, false] rfl rfl (by kernel_rfl) (by decide) (fun K hK => ?_)
        refine goes_ Tryz.func7 (by kernel_rfl) rfl #[.agg #[.slice (some ⟨h, 0, none⟩) 1 1, .slice none 0 0, .string rB], .agg #[.slice (some ⟨h, 0, none⟩) 1 1, .slice none 0 0, .string rB]] (by rfl) rfl rfl (by simp only [List.map_toArray, List.map_cons, List.map_nil]; rfl) ?_
        with_reducible refine (ofA_calls h _ X2.out.c0).mono ?_
        rintro e w5 ⟨va, rfl, hd, hb⟩
        refine ⟨_, rfl, ?_⟩
        have X3 := Aside0.mk ((X2.out.on hb).set2 (hd.lower X2.out.below.size))
        clear hd hb
        refine hK.out _ _ (X3.out.box) (fun hHeld => ?_)
        clear hK K
        refine norm_ (a' := ?_) ?_ ?_
        rotate_left
        · show Act.put _ (some 8) _ = _
          simp only [Act.put, List.setIfInBounds_toArray, List.set_cons_zero, List.set_cons_succ, i64_w, i32_w]
          rfl
        refine one_ (i := 5) (N := some 11) #[true, true, true, true, true, true, true, true, false, false] rfl rfl (by kernel_rfl) (by decide) (fun K hK => ?_)
        refine goes_ Tryz.func7 (by kernel_rfl) rfl #[.agg #[.slice none 0 0, .slice none 0 0, .string ⟨#[]⟩], .agg #[.slice (some ⟨h, 0, none⟩) 1 1, .slice none 0 0, .string rB]] (by rfl) rfl rfl (by simp only [List.map_toArray, List.map_cons, List.map_nil]; rfl) ?_
        with_reducible refine (ofB_calls h _ X3.out.c0).mono ?_
        rintro e w6 ⟨vb, rfl, hd, hb⟩
        refine ⟨_, rfl, ?_⟩
        have X4 := Aside0.mk ((X3.out.on hb).set5 (hd.lower X3.out.below.size))
        clear hd hb
        refine hK.out _ _ (X4.out.box) (fun hHeld => ?_)
        clear hK K
        refine norm_ (a' := ?_) ?_ ?_
        rotate_left
        · show Act.put _ (some 11) _ = _
          simp only [Act.put, List.setIfInBounds_toArray, List.set_cons_zero, List.set_cons_succ, i64_w, i32_w]
          rfl
        exact norm_ (by simp only [putAll, Act.put, List.setIfInBounds_toArray, List.set_cons_zero, List.set_cons_succ, sz]) (hCont ⟨va, vb, k6, k7⟩ _ X4.out)
    · skip
      refine value_ (w1 := ?_) (v := ?_) (by rfl) rfl ?_ ?_
      rotate_left 2
      · go_simp
        constructor
        · rfl
        · rfl
      have X1 := Aside0.mk (X0.out.alloc7)
      generalize wd.alloc (.cells Tryz.zeroCells31 31) = w3 at X1 ⊢
      generalize wd.heap.size = k7 at X1 ⊢
      refine hK.out _ _ (X1.out.box) (fun hHeld => ?_)
      clear hK K
      refine norm_ (a' := ?_) ?_ ?_
      rotate_left
      · show Act.put _ (some 3) _ = _
        simp only [Act.put, List.setIfInBounds_toArray, List.set_cons_zero, List.set_cons_succ, i64_w, i32_w]
        rfl
      refine two_ (i := 2) (j := 6) (Ni := some 8) (Nj := some 2) #[true, true, true, true, true, false, false, true, false, false] #[true, true, false, true, true, false, true, true, false, false] rfl rfl rfl rfl (by kernel_rfl) (by decide) (by decide) (fun K hK => ?_) (fun K hK => ?_)
      · skip
        refine goes_ Tryz.func7 (by kernel_rfl) rfl #[.agg #[.slice (some ⟨h, 0, none⟩) 1 1, .slice none 0 0, .string rB], .agg #[.slice (some ⟨h, 0, none⟩) 1 1, .slice none 0 0, .string rB]] (by rfl) rfl rfl (by simp only [List.map_toArray, List.map_cons, List.map_nil]; rfl) ?_
        with_reducible refine (ofA_calls h _ X1.out.c0).mono ?_
        rintro e w4 ⟨va, rfl, hd, hb⟩
        refine ⟨_, rfl, ?_⟩
        have X2 := Aside0.mk ((X1.out.on hb).set2 (hd.lower X1.out.below.size))
        clear hd hb
        refine hK.out _ _ (X2.out.box) (fun hHeld => ?_)
        clear hK K
        refine norm_ (a' := ?_) ?_ ?_
        rotate_left
        · show Act.put _ (some 8) _ = _
          simp only [Act.put, List.setIfInBounds_toArray, List.set_cons_zero, List.set_cons_succ, i64_w, i32_w]
          rfl
        refine two_ (i := 5) (j := 6) (Ni := some 11) (Nj := some 2) #[true, true, true, true, true, true, false, true, false, false] #[true, true, true, true, true, false, true, true, false, false] rfl rfl rfl rfl (by kernel_rfl) (by decide) (by decide) (fun K hK => ?_) (fun K hK => ?_)
        · skip
          refine goes_ Tryz.func7 (by kernel_rfl) rfl #[.agg #[.slice none 0 0, .slice none 0 0, .string ⟨#[]⟩], .agg #[.slice (some ⟨h, 0, none⟩) 1 1, .slice none 0 0, .string rB]] (by rfl) rfl rfl (by simp only [List.map_toArray, List.map_cons, List.map_nil]; rfl) ?_
          with_reducible refine (ofB_calls h _ X2.out.c0).mono ?_
          rintro e w5 ⟨vb, rfl, hd, hb⟩
          refine ⟨_, rfl, ?_⟩
          have X3 := Aside0.mk ((X2.out.on hb).set5 (hd.lower X2.out.below.size))
          clear hd hb
          refine hK.out _ _ (X3.out.box) (fun hHeld => ?_)
          clear hK K
          refine norm_ (a' := ?_) ?_ ?_
          rotate_left
          · show Act.put _ (some 11) _ = _
            simp only [Act.put, List.setIfInBounds_toArray, List.set_cons_zero, List.set_cons_succ, i64_w, i32_w]
            rfl
          refine one_ (i := 6) (N := some 2) #[true, true, true, true, true, true, true, true, false, false] rfl rfl (by kernel_rfl) (by decide) (fun K hK => ?_)
          refine value_ (w1 := ?_) (v := ?_) (by rfl) rfl ?_ ?_
          rotate_left 2
          · go_simp
            constructor
            · rfl
            · rfl
          have X4 := Aside0.mk (X3.out.alloc6)
          generalize w5.alloc (.cells Tryz.zeroCells31 31) = w6 at X4 ⊢
          generalize w5.heap.size = k6 at X4 ⊢
          refine hK.out _ _ (X4.out.box) (fun hHeld => ?_)
          clear hK K
          refine norm_ (a' := ?_) ?_ ?_
          rotate_left
          · show Act.put _ (some 2) _ = _
            simp only [Act.put, List.setIfInBounds_toArray, List.set_cons_zero, List.set_cons_succ, i64_w, i32_w]
            rfl
          exact norm_ (by simp only [putAll, Act.put, List.setIfInBounds_toArray, List.set_cons_zero, List.set_cons_succ, sz]) (hCont ⟨va, vb, k6, k7⟩ _ X4.out)
        · skip
          refine value_ (w1 := ?_) (v := ?_) (by rfl) rfl ?_ ?_
          rotate_left 2
          · go_simp
            constructor
            · rfl
            · rfl
          have X3 := Aside0.mk (X2.out.alloc6)
          generalize w4.alloc (.cells Tryz.zeroCells31 31) = w5 at X3 ⊢
          generalize w4.heap.size = k6 at X3 ⊢
          refine hK.out _ _ (X3.out.box) (fun hHeld => ?_)
          clear hK K
          refine norm_ (a' := ?_) ?_ ?_
          rotate_left
          · show Act.put _ (some 2) _ = _
            simp only [Act.put, List.setIfInBounds_toArray, List.set_cons_zero, List.set_cons_succ, i64_w, i32_w]
            rfl
          refine one_ (i := 5) (N := some 11) #[true, true, true, true, true, true, true, true, false, false] rfl rfl (by kernel_rfl) (by decide) (fun K hK => ?_)
          refine goes_ Tryz.func7 (by kernel_rfl) rfl #[.agg #[.slice none 0 0, .slice none 0 0, .string ⟨#[]⟩], .agg #[.slice (some ⟨h, 0, none⟩) 1 1, .slice none 0 0, .string rB]] (by rfl) rfl rfl (by simp only [List.map_toArray, List.map_cons, List.map_nil]; rfl) ?_
          with_reducible refine (ofB_calls h _ X3.out.c0).mono ?_
          rintro e w6 ⟨vb, rfl, hd, hb⟩
          refine ⟨_, rfl, ?_⟩
          have X4 := Aside0.mk ((X3.out.on hb).set5 (hd.lower X3.out.below.size))
          clear hd hb
          refine hK.out _ _ (X4.out.box) (fun hHeld => ?_)
          clear hK K
          refine norm_ (a' := ?_) ?_ ?_
          rotate_left
          · show Act.put _ (some 11) _ = _
            simp only [Act.put, List.setIfInBounds_toArray, List.set_cons_zero, List.set_cons_succ, i64_w, i32_w]
            rfl
          exact norm_ (by simp only [putAll, Act.put, List.setIfInBounds_toArray, List.set_cons_zero, List.set_cons_succ, sz]) (hCont ⟨va, vb, k6, k7⟩ _ X4.out)
      · skip
        refine value_ (w1 := ?_) (v := ?_) (by rfl) rfl ?_ ?_
        rotate_left 2
        · go_simp
          constructor
          · rfl
          · rfl
        have X2 := Aside0.mk (X1.out.alloc6)
        generalize w3.alloc (.cells Tryz.zeroCells31 31) = w4 at X2 ⊢
        generalize w3.heap.size = k6 at X2 ⊢
        refine hK.out _ _ (X2.out.box) (fun hHeld => ?_)
        clear hK K
        refine norm_ (a' := ?_) ?_ ?_
        rotate_left
        · show Act.put _ (some 2) _ = _
          simp only [Act.put, List.setIfInBounds_toArray, List.set_cons_zero, List.set_cons_succ, i64_w, i32_w]
          rfl
        refine one_ (i := 2) (N := some 8) #[true, true, true, true, true, false, true, true, false, false] rfl rfl (by kernel_rfl) (by decide) (fun K hK => ?_)
        refine goes_ Tryz.func7 (by kernel_rfl) rfl #[.agg #[.slice (some ⟨h, 0, none⟩) 1 1, .slice none 0 0, .string rB], .agg #[.slice (some ⟨h, 0, none⟩) 1 1, .slice none 0 0, .string rB]] (by rfl) rfl rfl (by simp only [List.map_toArray, List.map_cons, List.map_nil]; rfl) ?_
        with_reducible refine (ofA_calls h _ X2.out.c0).mono ?_
        rintro e w5 ⟨va, rfl, hd, hb⟩
        refine ⟨_, rfl, ?_⟩
        have X3 := Aside0.mk ((X2.out.on hb).set2 (hd.lower X2.out.below.size))
        clear hd hb
        refine hK.out _ _ (X3.out.box) (fun hHeld => ?_)
        clear hK K
        refine norm_ (a' := ?_) ?_ ?_
        rotate_left
        · show Act.put _ (some 8) _ = _
          simp only [Act.put, List.setIfInBounds_toArray, List.set_cons_zero, List.set_cons_succ, i64_w, i32_w]
          rfl
        refine one_ (i := 5) (N := some 11) #[true, true, true, true, true, true, true, true, false, false] rfl rfl (by kernel_rfl) (by decide) (fun K hK => ?_)
        refine goes_ Tryz.func7 (by kernel_rfl) rfl #[.agg #[.slice none 0 0, .slice none 0 0, .string ⟨#[]⟩], .agg #[.slice (some ⟨h, 0, none⟩) 1 1, .slice none 0 0, .string rB]] (by rfl) rfl rfl (by simp only [List.map_toArray, List.map_cons, List.map_nil]; rfl) ?_
        with_reducible refine (ofB_calls h _ X3.out.c0).mono ?_
        rintro e w6 ⟨vb, rfl, hd, hb⟩
        refine ⟨_, rfl, ?_⟩
        have X4 := Aside0.mk ((X3.out.on hb).set5 (hd.lower X3.out.below.size))
        clear hd hb
        refine hK.out _ _ (X4.out.box) (fun hHeld => ?_)
        clear hK K
        refine norm_ (a' := ?_) ?_ ?_
        rotate_left
        · show Act.put _ (some 11) _ = _
          simp only [Act.put, List.setIfInBounds_toArray, List.set_cons_zero, List.set_cons_succ, i64_w, i32_w]
          rfl
        exact norm_ (by simp only [putAll, Act.put, List.setIfInBounds_toArray, List.set_cons_zero, List.set_cons_succ, sz]) (hCont ⟨va, vb, k6, k7⟩ _ X4.out)
  rintro ⟨v2, v5, g6, g7⟩ w9 hX
  replace hX : FX w h w9 g #[.slice (some ⟨h, 0, none⟩) 1 1, .slice none 0 0, .string rB] (some v2) (some v5) (some g6) (some g7) := hX
  have hHeld : Blk w9 g 24 #[.slice (some ⟨h, 0, none⟩) 1 1, .slice none 0 0, .string rB] := hX.box
  obtain ⟨L2, M2, hL2, hM2, P1, p1, P2, p2, ev2, C21, C22⟩ := hX.d2 _ rfl
  obtain ⟨L5, M5, hL5, hM5, Q1, q1, Q2, q2, ev5, C51, C52⟩ := hX.d5 _ rfl
  subst ev2 ev5
  refine norm_ (a' := ?_) ?_ ?_
  rotate_left
  · simp only [putAll, Act.put, List.setIfInBounds_toArray, List.set_cons_zero, List.set_cons_succ]
    rfl
  refine last_ (i := 8) (N := none) #[true, true, true, true, true, true, true, true, true, false] rfl rfl (by kernel_rfl) (by decide) (fun K hK => ?_)
  refine skip_ (w1 := w9.setRow g6 (dArr L2 (.slice P1 ([] : List S46).length p1) (.slice P2 ([] : List S46).length p2) rB M2)) (by rfl) rfl ?_ ?_
  · exact row_stores 31 (.tmp 2) (.tmp 8) rfl g6 _ rfl rfl (hX.a6 _ rfl).1 (by rw [dArr_size hL2 hM2]; kernel_rfl) (by rw [dArr_size hL2 hM2, dArr_size (outL_len _ _) (outL_len _ _)]) (dArr_one _ _ _ _ _ _ _ _ _)
  refine hK.out _ _ ?_
  clear hK K
  refine last_ (i := 9) (N := none) #[true, true, true, true, true, true, true, true, true, true] rfl rfl (by kernel_rfl) (by decide) (fun K hK => ?_)
  refine skip_ (w1 := (w9.setRow g6 (dArr L2 (.slice P1 ([] : List S46).length p1) (.slice P2 ([] : List S46).length p2) rB M2)).setRow g7 (dArr L5 (.slice Q1 [(⟨0, xB⟩ : S46)].length q1) (.slice Q2 ([] : List S46).length q2) rB M5)) (by rfl) rfl ?_ ?_
  · exact row_stores 31 (.tmp 3) (.tmp 11) rfl g7 _ rfl rfl ((hX.a7 _ rfl).1.setRow_far (hX.ne _ _ rfl rfl).symm _) (by rw [dArr_size hL5 hM5]; kernel_rfl) (by rw [dArr_size hL5 hM5, dArr_size (outL_len _ _) (outL_len _ _)]) (dArr_one _ _ _ _ _ _ _ _ _)
  refine hK.out _ _ ?_
  clear hK K
  refine done_ (by kernel_rfl) ?_

  have Bd := ((hX.a6 _ rfl).1.setRow_ (dArr L2 (.slice P1 ([] : List S46).length p1) (.slice P2 ([] : List S46).length p2) rB M2)).setRow_far (k := g7) (hX.ne _ _ rfl rfl) (dArr L5 (.slice Q1 [(⟨0, xB⟩ : S46)].length q1) (.slice Q2 ([] : List S46).length q2) rB M5)
  have Be := ((hX.a7 _ rfl).1.setRow_far (k := g6) (hX.ne _ _ rfl rfl).symm (dArr L2 (.slice P1 ([] : List S46).length p1) (.slice P2 ([] : List S46).length p2) rB M2)).setRow_ (dArr L5 (.slice Q1 [(⟨0, xB⟩ : S46)].length q1) (.slice Q2 ([] : List S46).length q2) rB M5)
  have R5 := R_setRowT (R_setRowT C51 (hX.a6 _ rfl).1 (by decide) (dArr L2 (.slice P1 ([] : List S46).length p1) (.slice P2 ([] : List S46).length p2) rB M2)) ((hX.a7 _ rfl).1.setRow_far (k := g6) (hX.ne _ _ rfl rfl).symm (dArr L2 (.slice P1 ([] : List S46).length p1) (.slice P2 ([] : List S46).length p2) rB M2)) (by decide) (dArr L5 (.slice Q1 [(⟨0, xB⟩ : S46)].length q1) (.slice Q2 ([] : List S46).length q2) rB M5)
  have WZ := below_setRow' (below_setRow' hX.below (show w.heap.size ≤ g6 by have := (hX.a6 _ rfl).2; have := hX.low; omega) (dArr L2 (.slice P1 ([] : List S46).length p1) (.slice P2 ([] : List S46).length p2) rB M2)) (show w.heap.size ≤ g7 by have := (hX.a7 _ rfl).2; have := hX.low; omega) (dArr L5 (.slice Q1 [(⟨0, xB⟩ : S46)].length q1) (.slice Q2 ([] : List S46).length q2) rB M5)
  generalize (w9.setRow g6 (dArr L2 (.slice P1 ([] : List S46).length p1) (.slice P2 ([] : List S46).length p2) rB M2)).setRow g7 (dArr L5 (.slice Q1 [(⟨0, xB⟩ : S46)].length q1) (.slice Q2 ([] : List S46).length q2) rB M5) = wz at Bd Be R5 WZ ⊢
  have d1 := (Bd.cell 32).trans (dArr_f1 hL2)
  have d2 := (Bd.cell 33).trans (dArr_f2 hL2)
  have e1 := (Be.cell 32).trans (dArr_f1 hL5)
  obtain ⟨ad, ea, x1, x2⟩ := at_T46 (Kd.R_reads' R5).2.2 0 (by decide) (by decide)
  clear hX hHeld C51 C52 C21 C22 Bd Be R5
  cases ea
  replace x1 : wz.cell? ad = some (.int .i64 0) := by simpa [rd_T46, show ad.add 0 = ad by simp [Addr.add]] using x1
  replace x2 : wz.cell? ⟨ad.block, ad.off + 1, none⟩ = some (.string ⟨#[120]⟩) := by simpa [rd_T46, xB, show ad.add 0 = ad by simp [Addr.add]] using x2
  go_wp2_with fail
  go_ret
  exact ⟨rfl, WZ⟩
end Go.Proofs.YtoljjgabgdifbaaGreatDoor.H

namespace Go.Proofs.YtoljjgabgdifbaaGreatDoor.H
open Go.RowKit Go.Proofs.YtoljjgabgdifbaaGreatDoorW.PrintWords Go.Proofs.YtoljjgabgdifbaaGreatDoorW.PrintLast Go.Proofs.YtoljjgabgdifbaaGreatDoorW.PrintMore
set_option linter.unusedVariables false
set_option linter.unusedSimpArgs false

def at_ (x : List ByteArray) (i : Nat) : ByteArray := x.getD i ByteArray.empty
/-- Is text i new or another one? -/
def unlike (x y : List ByteArray) (i : Nat) : Bool := decide (x.length ≤ i) || !decide ((at_ x i).toList = (at_ y i).toList)
/-- What is other among the first i. -/
def chg (x y : List ByteArray) : Nat → List S46
  | 0 => []
  | i + 1 => if unlike x y i then chg x y i ++ [⟨(i : Int), at_ y i⟩] else chg x y i
theorem chg_len (x y : List ByteArray) : ∀ i, (chg x y i).length ≤ i
  | 0 => Nat.le_refl _
  | i + 1 => by
    have := chg_len x y i
    rw [chg]
    split
    · rw [List.length_append, List.length_singleton]; omega
    · omega
theorem chg_pre (x y : List ByteArray) (i : Nat) : ∀ d, ∃ r, chg x y (i + d) = chg x y i ++ r
  | 0 => ⟨[], by simp⟩
  | d + 1 => by
    obtain ⟨r, h⟩ := chg_pre x y i d
    rw [← Nat.add_assoc, chg]
    split
    · exact ⟨r ++ [⟨((i + d : Nat) : Int), at_ y (i + d)⟩], by rw [h, List.append_assoc]⟩
    · exact ⟨r, h⟩
theorem chg_at {x y : List ByteArray} {i n : Nat} (hi : i < n) (ho : unlike x y i = true) : (chg x y i).length < (chg x y n).length ∧ (chg x y n)[(chg x y i).length]? = some ⟨(i : Int), at_ y i⟩ := by
  obtain ⟨r, h⟩ := chg_pre x y (i + 1) (n - (i + 1))
  rw [show i + 1 + (n - (i + 1)) = n by omega, chg, if_pos ho] at h
  rw [h]
  simp only [List.length_append, List.length_singleton]
  exact ⟨by omega, by simp⟩
theorem wrap_succ {i n : Nat} (h : i < n) (hn : n ≤ 5864062014805) : wrap64 ((i : Int) + 1) = ((i + 1 : Nat) : Int) := by
  rw [← i64_w, IntWalk.i64_in _ (by omega)]
  omega
theorem rdOf_at (x : List ByteArray) (i : Nat) : rdOf ByteArray.empty x (i : Int) = at_ x i := by simp [rdOf, at_]
theorem size_some (l : List ByteArray) (hl : l.length ≤ 5864062014805) : ∀ (d i k : Nat) (n : Int), i + d = l.length → d < k → ∃ r, hibernaclelaw35_size.l0 k n l (l.length : Int) (i : Int) = some r
  | 0, i, k, n, h, hk => by
    obtain ⟨k, rfl⟩ : ∃ m, k = m + 1 := ⟨k - 1, by omega⟩
    rw [hibernaclelaw35_size.l0, if_neg (by omega)]
    exact ⟨_, rfl⟩
  | d + 1, i, k, n, h, hk => by
    obtain ⟨k, rfl⟩ : ∃ m, k = m + 1 := ⟨k - 1, by omega⟩
    rw [hibernaclelaw35_size.l0, if_pos (by omega), if_pos (by omega), if_pos (by omega), wrap_succ (show i < l.length by omega) hl]
    exact size_some l hl d (i + 1) k _ (by omega) (by omega)
theorem great_some (m : Nat) (l : List S24) (hl : l.length ≤ 5864062014805) (hm : ∀ x ∈ l, x.f0.length ≤ m ∧ x.f1.length ≤ m) (hmm : m ≤ 5864062014805) : ∀ (d i k : Nat) (n : Int), i + d = l.length → d + m + 1 < k → ∃ r, hibernaclelaw35_great.l0 k n l (l.length : Int) (i : Int) = some r
  | 0, i, k, n, h, hk => by
    obtain ⟨k, rfl⟩ : ∃ m, k = m + 1 := ⟨k - 1, by omega⟩
    rw [hibernaclelaw35_great.l0, if_neg (by omega)]
    exact ⟨_, rfl⟩
  | d + 1, i, k, n, h, hk => by
    obtain ⟨k, rfl⟩ : ∃ m, k = m + 1 := ⟨k - 1, by omega⟩
    rw [hibernaclelaw35_great.l0, if_pos (by omega), if_pos (by omega), if_pos (by omega), wrap_succ (show i < l.length by omega) hl]
    have hx := hm (rd_T24 l (i : Int)) (by
      have : rd_T24 l (i : Int) = l[i]'(by omega) := by simp [rd_T24, List.getD_eq_getElem?_getD, List.getElem?_eq_getElem (show i < l.length by omega)]
      rw [this]
      exact List.getElem_mem _)
    obtain ⟨r1, h1⟩ := size_some (rd_T24 l (i : Int)).f0 (by omega) (rd_T24 l (i : Int)).f0.length 0 k 0 (by omega) (by omega)
    obtain ⟨r2, h2⟩ := size_some (rd_T24 l (i : Int)).f1 (by omega) (rd_T24 l (i : Int)).f1.length 0 k 0 (by omega) (by omega)
    have g1 : hibernaclelaw35_size.f k (rd_T24 l (i : Int)).f0 = some r1 := h1
    have g2 : hibernaclelaw35_size.f k (rd_T24 l (i : Int)).f1 = some r2 := h2
    rw [g1, Option.bind_some, g2, Option.bind_some]
    exact great_some m l hl hm hmm d (i + 1) k _ (by omega) (by omega)
theorem great_f (m : Nat) (l : List S24) (hl : l.length ≤ 5864062014805) (hm : ∀ x ∈ l, x.f0.length ≤ m ∧ x.f1.length ≤ m) (hmm : m ≤ 5864062014805) : ∃ k r, hibernaclelaw35_great.f k l = some r := by
  obtain ⟨r, h⟩ := great_some m l hl hm hmm l.length 0 (l.length + m + 2) 0 (by omega) (by omega)
  exact ⟨_, r, h⟩
end Go.Proofs.YtoljjgabgdifbaaGreatDoor.H

namespace Go.Proofs.YtoljjgabgdifbaaGreatDoor.H
open Go.RowKit Go.Proofs.YtoljjgabgdifbaaGreatDoorW.PrintWords Go.Proofs.YtoljjgabgdifbaaGreatDoorW.PrintLast Go.Proofs.YtoljjgabgdifbaaGreatDoorW.PrintMore
set_option linter.unusedVariables false
set_option linter.unusedSimpArgs false

end Go.Proofs.YtoljjgabgdifbaaGreatDoor.H


namespace Go.Proofs.YtoljjgabgdifbaaGreatDoor.H
open Go.RowKit Go.Proofs.YtoljjgabgdifbaaGreatDoorW.PrintWords Go.Proofs.YtoljjgabgdifbaaGreatDoorW.PrintLast Go.Proofs.YtoljjgabgdifbaaGreatDoorW.PrintMore
set_option linter.unusedVariables false
set_option linter.unusedSimpArgs false

end Go.Proofs.YtoljjgabgdifbaaGreatDoor.H

namespace Go.Proofs.YtoljjgabgdifbaaGreatDoor.H
open Go.RowKit Go.Proofs.YtoljjgabgdifbaaGreatDoorW.PrintWords Go.Proofs.YtoljjgabgdifbaaGreatDoorW.PrintLast
set_option linter.unusedVariables false
set_option linter.unusedSimpArgs false

theorem or_comm' (k : IntKind) (x y : Int) : Go.bits .or k x y = Go.bits .or k y x := by
  show k.wrap _ = k.wrap _
  simp only [BitVec.or_comm]
theorem turned16 (x : Int) (w : World) : Calls Tryz.prog 97 #[.int .u32 x, .int .u64 16] w fun e w' => e = .returned (.int .u32 (rot x 65536 65536)) ∧ w' = w := by
  go_enter Tryz.func97, Tryz.ntmps97
  go_wp2
  go_ret
  exact ⟨ret_int (or_comm' _ _ _), rfl⟩
theorem turned12 (x : Int) (w : World) : Calls Tryz.prog 97 #[.int .u32 x, .int .u64 12] w fun e w' => e = .returned (.int .u32 (rot x 1048576 4096)) ∧ w' = w := by
  go_enter Tryz.func97, Tryz.ntmps97
  go_wp2
  go_ret
  exact ⟨ret_int (or_comm' _ _ _), rfl⟩
theorem turned8 (x : Int) (w : World) : Calls Tryz.prog 97 #[.int .u32 x, .int .u64 8] w fun e w' => e = .returned (.int .u32 (rot x 16777216 256)) ∧ w' = w := by
  go_enter Tryz.func97, Tryz.ntmps97
  go_wp2
  go_ret
  exact ⟨ret_int (or_comm' _ _ _), rfl⟩
theorem turned7 (x : Int) (w : World) : Calls Tryz.prog 97 #[.int .u32 x, .int .u64 7] w fun e w' => e = .returned (.int .u32 (rot x 33554432 128)) ∧ w' = w := by
  go_enter Tryz.func97, Tryz.ntmps97
  go_wp2
  go_ret
  exact ⟨ret_int (or_comm' _ _ _), rfl⟩

theorem Blk.rsetRow_ {w : World} {g : Nat} {t : TypeId} {cs : Array Value} (h : Blk w g t cs) (cs' : Array Value) : Blk (w.setRow g cs') g t cs' := setRow_heap w g cs cs' t (0, 0) h
theorem rbelow_setRow {B g : Nat} {w0 w : World} (hb : Below B w0 w) (hBg : B ≤ g) (cs : Array Value) : Below B w0 (w.setRow g cs) :=
  hb.trans ⟨rfl, rfl, rfl, by simp [World.setRow], fun k hk => setRow_other w g k cs (by omega)⟩
theorem nums_all32 (vs : List Int) : (nums .u32 vs).toArray.all (·.oneCell') = true := by
  rw [Array.all_eq_true_iff_forall_mem]
  intro v hv
  simp only [nums, List.mem_toArray, List.mem_map] at hv
  obtain ⟨x, _, rfl⟩ := hv
  rfl
/-- What stands while four numbers are mixed. -/
structure RF (w0 w : World) (a b c d : Nat) (vs : List Int) (xa xb xc xd : Int) : Prop where
  below : Below w0.heap.size w0 w
  blk : Blk w w0.heap.size 104 (nums .u32 vs).toArray
  res : Blk w (w0.heap.size + 1) 104 (nums .u32 (List.replicate 16 0)).toArray
  len : vs.length = 16
  ga : vs.getD a 0 = xa
  gb : vs.getD b 0 = xb
  gc : vs.getD c 0 = xc
  gd : vs.getD d 0 = xd
theorem getD_set_ne {vs : List Int} {i j : Nat} (h : i ≠ j) (y : Int) : (vs.set i y).getD j 0 = vs.getD j 0 := by
  simp [List.getD_eq_getElem?_getD, List.getElem?_set_ne h]
theorem getD_set_eq {vs : List Int} {i : Nat} (h : i < vs.length) (y : Int) : (vs.set i y).getD i 0 = y := by
  simp [List.getD_eq_getElem?_getD, List.getElem?_set_self h]
theorem RF.q {w0 w : World} {a b c d : Nat} {vs : List Int} {xa xb xc xd : Int} (X : RF w0 w a b c d vs xa xb xc xd) (i : Nat) (hi : i < 16) {y : Int} (hy : vs.getD i 0 = y) : w.cell? ⟨w0.heap.size, i, none⟩ = some (.int .u32 y) := by
  rw [← hy]
  exact (X.blk.cell i).trans (nums_get (by rw [X.len]; exact hi))
theorem RF.set_ {w0 w : World} {a b c d : Nat} {vs : List Int} {xa xb xc xd : Int} (X : RF w0 w a b c d vs xa xb xc xd) (i : Nat) (y : Int) {ya yb yc yd : Int} (ha : (vs.set i y).getD a 0 = ya) (hb : (vs.set i y).getD b 0 = yb) (hc : (vs.set i y).getD c 0 = yc) (hd : (vs.set i y).getD d 0 = yd) :
    RF w0 ((w.setCell ⟨w0.heap.size, i, none⟩ (.int .u32 y)).drew) a b c d (vs.set i y) ya yb yc yd := by
  refine ⟨below_drew (X.below.setCell (Nat.le_refl _) _), ?_, (X.res.far (by simp) _).drew, by rw [List.length_set]; exact X.len, ha, hb, hc, hd⟩
  have z := X.blk.set_ i (.int .u32 y)
  rw [nums_set] at z
  exact z.drew
theorem RF.set_a {w0 w : World} {a b c d : Nat} {vs : List Int} {xa xb xc xd : Int} (X : RF w0 w a b c d vs xa xb xc xd) (y : Int) (h : a < 16) (mb : a ≠ b) (mc : a ≠ c) (md : a ≠ d) :
    RF w0 ((w.setCell ⟨w0.heap.size, a, none⟩ (.int .u32 y)).drew) a b c d (vs.set a y) y xb xc xd :=
  X.set_ a y (getD_set_eq (by rw [X.len]; exact h) y) ((getD_set_ne mb y).trans X.gb) ((getD_set_ne mc y).trans X.gc) ((getD_set_ne md y).trans X.gd)
theorem RF.set_b {w0 w : World} {a b c d : Nat} {vs : List Int} {xa xb xc xd : Int} (X : RF w0 w a b c d vs xa xb xc xd) (y : Int) (h : b < 16) (ma : b ≠ a) (mc : b ≠ c) (md : b ≠ d) :
    RF w0 ((w.setCell ⟨w0.heap.size, b, none⟩ (.int .u32 y)).drew) a b c d (vs.set b y) xa y xc xd :=
  X.set_ b y ((getD_set_ne ma y).trans X.ga) (getD_set_eq (by rw [X.len]; exact h) y) ((getD_set_ne mc y).trans X.gc) ((getD_set_ne md y).trans X.gd)
theorem RF.set_c {w0 w : World} {a b c d : Nat} {vs : List Int} {xa xb xc xd : Int} (X : RF w0 w a b c d vs xa xb xc xd) (y : Int) (h : c < 16) (ma : c ≠ a) (mb : c ≠ b) (md : c ≠ d) :
    RF w0 ((w.setCell ⟨w0.heap.size, c, none⟩ (.int .u32 y)).drew) a b c d (vs.set c y) xa xb y xd :=
  X.set_ c y ((getD_set_ne ma y).trans X.ga) ((getD_set_ne mb y).trans X.gb) (getD_set_eq (by rw [X.len]; exact h) y) ((getD_set_ne md y).trans X.gd)
theorem RF.set_d {w0 w : World} {a b c d : Nat} {vs : List Int} {xa xb xc xd : Int} (X : RF w0 w a b c d vs xa xb xc xd) (y : Int) (h : d < 16) (ma : d ≠ a) (mb : d ≠ b) (mc : d ≠ c) :
    RF w0 ((w.setCell ⟨w0.heap.size, d, none⟩ (.int .u32 y)).drew) a b c d (vs.set d y) xa xb xc y :=
  X.set_ d y ((getD_set_ne ma y).trans X.ga) ((getD_set_ne mb y).trans X.gb) ((getD_set_ne mc y).trans X.gc) (getD_set_eq (by rw [X.len]; exact h) y)
theorem mod_add3 (a b x : Int) : ((a + b) % 4294967296 + x) % 4294967296 = (a + (b + x) % 4294967296) % 4294967296 := by omega
set_option maxRecDepth 100000 in
set_option maxHeartbeats 4000000 in
theorem rmix_calls {vs : List Int} (a b c d : Nat) (x y : Int) (w : World) (hl : vs.length = 16) (la : a < 16) (lb : b < 16) (lc : c < 16) (ld : d < 16) (ab : a ≠ b) (ac : a ≠ c) (ad : a ≠ d) (bc : b ≠ c) (bd : b ≠ d) (cd : c ≠ d) :
    Calls Tryz.prog 79 #[.agg (nums .u32 vs).toArray, .int .i64 a, .int .i64 b, .int .i64 c, .int .i64 d, .int .u32 x, .int .u32 y] w
      fun e w' => e = .returned (.agg (nums .u32 (mixL vs a b c d x y)).toArray) ∧ Below w.heap.size w w' := by
  have X0 : RF w ((w.alloc (.cells (nums .u32 vs).toArray 104)).alloc (.cells (nums .u32 (List.replicate 16 0)).toArray 104)) a b c d vs (vs.getD a 0) (vs.getD b 0) (vs.getD c 0) (vs.getD d 0) :=
    ⟨((Below.refl w.heap.size w).alloc (Nat.le_refl _) _).alloc (by rw [sz]; omega) _, (Blk.new w 104 _).alloc _, by have z := Blk.new (w.alloc (.cells (nums .u32 vs).toArray 104)) 104 (nums .u32 (List.replicate 16 0)).toArray; rw [sz] at z; exact z, hl, rfl, rfl, rfl, rfl⟩
  generalize hw0 : ((w.alloc (.cells (nums .u32 vs).toArray 104)).alloc (.cells (nums .u32 (List.replicate 16 0)).toArray 104)) = w0 at X0
  have HW0 := Aside0.mk hw0
  clear hw0
  have ML : mixL vs a b c d x y = halfL (halfL vs a b c d x 65536 65536 1048576 4096) a b c d y 16777216 256 33554432 128 := rfl
  generalize hm : mixL vs a b c d x y = R at ML ⊢
  have ML := Aside0.mk ML
  clear hm
  obtain ⟨xa, ha⟩ : ∃ z, z = vs.getD a 0 := ⟨_, rfl⟩
  obtain ⟨xb, hb⟩ : ∃ z, z = vs.getD b 0 := ⟨_, rfl⟩
  obtain ⟨xc, hc⟩ : ∃ z, z = vs.getD c 0 := ⟨_, rfl⟩
  obtain ⟨xd, hd⟩ : ∃ z, z = vs.getD d 0 := ⟨_, rfl⟩
  rw [← ha, ← hb, ← hc, ← hd] at X0
  have l0 : vs.length = 16 := hl
  have X1 := X0.set_a (hA xa xb x) la ab ac ad
  have X2 := X1.set_d (hD xa xb xd x 65536 65536) ld ad.symm bd.symm cd.symm
  have X3 := X2.set_c (hC xa xb xc xd x 65536 65536) lc ac.symm bc.symm cd
  have X4 := X3.set_b (hB xa xb xc xd x 65536 65536 1048576 4096) lb ab.symm bc bd
  obtain ⟨v4, hv4⟩ : ∃ z, z = (((vs.set a (hA xa xb x)).set d (hD xa xb xd x 65536 65536)).set c (hC xa xb xc xd x 65536 65536)).set b (hB xa xb xc xd x 65536 65536 1048576 4096) := ⟨_, rfl⟩
  have HF1 : halfL vs a b c d x 65536 65536 1048576 4096 = v4 := by rw [hv4]; unfold halfL; rw [← ha, ← hb, ← hc, ← hd]
  obtain ⟨ya, hya⟩ : ∃ z, z = hA xa xb x := ⟨_, rfl⟩
  obtain ⟨yb, hyb⟩ : ∃ z, z = hB xa xb xc xd x 65536 65536 1048576 4096 := ⟨_, rfl⟩
  obtain ⟨yc, hyc⟩ : ∃ z, z = hC xa xb xc xd x 65536 65536 := ⟨_, rfl⟩
  obtain ⟨yd, hyd⟩ : ∃ z, z = hD xa xb xd x 65536 65536 := ⟨_, rfl⟩
  rw [← hv4, ← hya, ← hyb, ← hyc, ← hyd] at X4
  rw [← hya] at X1
  rw [← hya, ← hyd] at X2
  rw [← hya, ← hyc, ← hyd] at X3
  have X5 := X4.set_a (hA ya yb y) la ab ac ad
  have X6 := X5.set_d (hD ya yb yd y 16777216 256) ld ad.symm bd.symm cd.symm
  have X7 := X6.set_c (hC ya yb yc yd y 16777216 256) lc ac.symm bc.symm cd
  have X8 := X7.set_b (hB ya yb yc yd y 16777216 256 33554432 128) lb ab.symm bc bd
  have ME : R = (((v4.set a (hA ya yb y)).set d (hD ya yb yd y 16777216 256)).set c (hC ya yb yc yd y 16777216 256)).set b (hB ya yb yc yd y 16777216 256 33554432 128) := by
    rw [ML.out, HF1]
    unfold halfL
    rw [X4.ga, X4.gb, X4.gc, X4.gd]
  have LM : R.length = 16 := by rw [ME]; exact X8.len
  obtain ⟨w1, hw1⟩ : ∃ z, z = (w0.setCell ⟨w.heap.size, a, none⟩ (.int .u32 (ya))).drew := ⟨_, rfl⟩
  rw [← hw1] at X1 X2 X3 X4 X5 X6 X7 X8
  obtain ⟨w2, hw2⟩ : ∃ z, z = (w1.setCell ⟨w.heap.size, d, none⟩ (.int .u32 (yd))).drew := ⟨_, rfl⟩
  rw [← hw2] at X2 X3 X4 X5 X6 X7 X8
  obtain ⟨w3, hw3⟩ : ∃ z, z = (w2.setCell ⟨w.heap.size, c, none⟩ (.int .u32 (yc))).drew := ⟨_, rfl⟩
  rw [← hw3] at X3 X4 X5 X6 X7 X8
  obtain ⟨w4, hw4⟩ : ∃ z, z = (w3.setCell ⟨w.heap.size, b, none⟩ (.int .u32 (yb))).drew := ⟨_, rfl⟩
  rw [← hw4] at X4 X5 X6 X7 X8
  obtain ⟨w5, hw5⟩ : ∃ z, z = (w4.setCell ⟨w.heap.size, a, none⟩ (.int .u32 (hA ya yb y))).drew := ⟨_, rfl⟩
  rw [← hw5] at X5 X6 X7 X8
  obtain ⟨w6, hw6⟩ : ∃ z, z = (w5.setCell ⟨w.heap.size, d, none⟩ (.int .u32 (hD ya yb yd y 16777216 256))).drew := ⟨_, rfl⟩
  rw [← hw6] at X6 X7 X8
  obtain ⟨w7, hw7⟩ : ∃ z, z = (w6.setCell ⟨w.heap.size, c, none⟩ (.int .u32 (hC ya yb yc yd y 16777216 256))).drew := ⟨_, rfl⟩
  rw [← hw7] at X7 X8
  obtain ⟨w8, hw8⟩ : ∃ z, z = (w7.setCell ⟨w.heap.size, b, none⟩ (.int .u32 (hB ya yb yc yd y 16777216 256 33554432 128))).drew := ⟨_, rfl⟩
  rw [← hw8] at X8
  rw [← ME] at X8
  have X0 := Aside0.mk X0
  have X1 := Aside0.mk X1
  have X2 := Aside0.mk X2
  have X3 := Aside0.mk X3
  have X4 := Aside0.mk X4
  have X5 := Aside0.mk X5
  have X6 := Aside0.mk X6
  have X7 := Aside0.mk X7
  have X8 := Aside0.mk X8
  have J1 := Aside0.mk hw1
  have J2 := Aside0.mk hw2
  have J3 := Aside0.mk hw3
  have J4 := Aside0.mk hw4
  have J5 := Aside0.mk hw5
  have J6 := Aside0.mk hw6
  have J7 := Aside0.mk hw7
  have J8 := Aside0.mk hw8
  have LM := Aside0.mk LM
  have HYA := Aside0.mk hya
  have HYB := Aside0.mk hyb
  have HYC := Aside0.mk hyc
  have HYD := Aside0.mk hyd
  clear hw1 hw2 hw3 hw4 hw5 hw6 hw7 hw8 ha hb hc hd hya hyb hyc hyd hv4 HF1 ME hl l0
  have ia := eq_true (show (a : Int) < 16 by omega)
  have ja := eq_true (show (0 : Int) ≤ (a : Int) by omega)
  have ib := eq_true (show (b : Int) < 16 by omega)
  have jb := eq_true (show (0 : Int) ≤ (b : Int) by omega)
  have ic := eq_true (show (c : Int) < 16 by omega)
  have jc := eq_true (show (0 : Int) ≤ (c : Int) by omega)
  have id := eq_true (show (d : Int) < 16 by omega)
  have jd := eq_true (show (0 : Int) ≤ (d : Int) by omega)
  clear ab ac ad bc bd cd
  go_enter Tryz.func79, Tryz.ntmps79
  go_wp2_with fail
  rw [show ((w.alloc (.cells (nums .u32 vs).toArray 104)).alloc (.cells #[.int .u32 0, .int .u32 0, .int .u32 0, .int .u32 0, .int .u32 0, .int .u32 0, .int .u32 0, .int .u32 0, .int .u32 0, .int .u32 0, .int .u32 0, .int .u32 0, .int .u32 0, .int .u32 0, .int .u32 0, .int .u32 0] 104)) = w0 from HW0.out]
  have fz := X0.out.blk.frozen a
  have qa := X0.out.q a la X0.out.ga
  have qb := X0.out.q b lb X0.out.gb
  have qc := X0.out.q c lc X0.out.gc
  have qd := X0.out.q d ld X0.out.gd
  go_still_tail 11, (by kernel_rfl)
  go_wp2_with fail
  rw [show (w0.setCell ⟨w.heap.size, a, none⟩ (.int .u32 (((xa + xb) % 4294967296 + x) % 4294967296))).drew = w1 from by rw [mod_add3, show (xa + (xb + x) % 4294967296) % 4294967296 = ya from HYA.out.symm]; exact J1.out.symm]
  clear fz qa qb qc qd
  have fz := X1.out.blk.frozen d
  have qa := X1.out.q a la X1.out.ga
  have qb := X1.out.q b lb X1.out.gb
  have qc := X1.out.q c lc X1.out.gc
  have qd := X1.out.q d ld X1.out.gd
  refine wp_region_still_tail 10 (by kernel_rfl) (by kernel_rfl) ?_
  simp only [List.take_succ_cons, List.take_zero, List.drop_succ_cons, List.drop_zero]
  repeat still_step
  still_call (turned16 _ _)
  repeat still_step
  refine wpStill_nil ?_
  go_wp2_with fail
  rw [show (w1.setCell ⟨w.heap.size, d, none⟩ (.int .u32 (rot (Go.bits .xor .u32 xd ya) 65536 65536))).drew = w2 from by rw [show rot (Go.bits .xor .u32 xd ya) 65536 65536 = yd from by rw [HYD.out, HYA.out]; rfl]; exact J2.out.symm]
  clear fz qa qb qc qd
  have fz := X2.out.blk.frozen c
  have qa := X2.out.q a la X2.out.ga
  have qb := X2.out.q b lb X2.out.gb
  have qc := X2.out.q c lc X2.out.gc
  have qd := X2.out.q d ld X2.out.gd
  go_still_tail 9, (by kernel_rfl)
  go_wp2_with fail
  rw [show (w2.setCell ⟨w.heap.size, c, none⟩ (.int .u32 ((xc + yd) % 4294967296))).drew = w3 from by rw [show (xc + yd) % 4294967296 = yc from by rw [HYC.out, HYD.out]; rfl]; exact J3.out.symm]
  clear fz qa qb qc qd
  have fz := X3.out.blk.frozen b
  have qa := X3.out.q a la X3.out.ga
  have qb := X3.out.q b lb X3.out.gb
  have qc := X3.out.q c lc X3.out.gc
  have qd := X3.out.q d ld X3.out.gd
  refine wp_region_still_tail 10 (by kernel_rfl) (by kernel_rfl) ?_
  simp only [List.take_succ_cons, List.take_zero, List.drop_succ_cons, List.drop_zero]
  repeat still_step
  still_call (turned12 _ _)
  repeat still_step
  refine wpStill_nil ?_
  go_wp2_with fail
  rw [show (w3.setCell ⟨w.heap.size, b, none⟩ (.int .u32 (rot (Go.bits .xor .u32 xb yc) 1048576 4096))).drew = w4 from by rw [show rot (Go.bits .xor .u32 xb yc) 1048576 4096 = yb from by rw [HYB.out, HYC.out]; rfl]; exact J4.out.symm]
  clear fz qa qb qc qd
  have fz := X4.out.blk.frozen a
  have qa := X4.out.q a la X4.out.ga
  have qb := X4.out.q b lb X4.out.gb
  have qc := X4.out.q c lc X4.out.gc
  have qd := X4.out.q d ld X4.out.gd
  go_still_tail 11, (by kernel_rfl)
  go_wp2_with fail
  rw [show (w4.setCell ⟨w.heap.size, a, none⟩ (.int .u32 (((ya + yb) % 4294967296 + y) % 4294967296))).drew = w5 from by rw [mod_add3]; exact J5.out.symm]
  clear fz qa qb qc qd
  have fz := X5.out.blk.frozen d
  have qa := X5.out.q a la X5.out.ga
  have qb := X5.out.q b lb X5.out.gb
  have qc := X5.out.q c lc X5.out.gc
  have qd := X5.out.q d ld X5.out.gd
  refine wp_region_still_tail 10 (by kernel_rfl) (by kernel_rfl) ?_
  simp only [List.take_succ_cons, List.take_zero, List.drop_succ_cons, List.drop_zero]
  repeat still_step
  still_call (turned8 _ _)
  repeat still_step
  refine wpStill_nil ?_
  go_wp2_with fail
  rw [show (w5.setCell ⟨w.heap.size, d, none⟩ (.int .u32 (rot (Go.bits .xor .u32 yd (hA ya yb y)) 16777216 256))).drew = w6 from J6.out.symm]
  clear fz qa qb qc qd
  have fz := X6.out.blk.frozen c
  have qa := X6.out.q a la X6.out.ga
  have qb := X6.out.q b lb X6.out.gb
  have qc := X6.out.q c lc X6.out.gc
  have qd := X6.out.q d ld X6.out.gd
  go_still_tail 9, (by kernel_rfl)
  go_wp2_with fail
  rw [show (w6.setCell ⟨w.heap.size, c, none⟩ (.int .u32 ((yc + hD ya yb yd y 16777216 256) % 4294967296))).drew = w7 from J7.out.symm]
  clear fz qa qb qc qd
  have B0 := Aside0.mk X8.out.blk
  have B1 := Aside0.mk X8.out.res
  have fz := X7.out.blk.frozen b
  have qa := X7.out.q a la X7.out.ga
  have qb := X7.out.q b lb X7.out.gb
  have qc := X7.out.q c lc X7.out.gc
  have qd := X7.out.q d ld X7.out.gd
  refine wp_region_still_tail 10 (by kernel_rfl) (by kernel_rfl) ?_
  simp only [List.take_succ_cons, List.take_zero, List.drop_succ_cons, List.drop_zero]
  repeat still_step
  still_call (turned7 _ _)
  repeat still_step
  refine wpStill_nil ?_
  go_wp2_with (first | (rw [show (w7.setCell ⟨w.heap.size, b, none⟩ (.int .u32 (rot (Go.bits .xor .u32 yb (hC ya yb yc yd y 16777216 256)) 33554432 128))).drew = w8 from J8.out.symm]) | (refine wpList_load_row rfl 104 (.tmp 7) rfl w.heap.size rfl 104 _ (0, 0) _ B0.out Tryz.underlying104 rfl (by rw [List.size_toArray, nums_length, LM.out]; kernel_rfl) ?_) | (refine wpList_store_row rfl 104 (.tmp 14) (.tmp 95) rfl (w.heap.size + 1) _ rfl rfl 104 _ B1.out (by rw [List.size_toArray, nums_length, LM.out]; kernel_rfl) (by rw [List.size_toArray, nums_length, List.size_toArray, nums_length, LM.out]; rfl) (nums_all32 _) ?_))
  exact bodyPost_ret (results_cell_row (p := 14) (ty := 104) rfl _ _ (w.heap.size + 1) 104 _ (0, 0) _ rfl (B1.out.rsetRow_ _) Tryz.underlying104 rfl (by rw [List.size_toArray, nums_length, LM.out]; kernel_rfl)) rfl ⟨rfl, rbelow_setRow X8.out.below (by omega) _⟩
end Go.Proofs.YtoljjgabgdifbaaGreatDoor.H

