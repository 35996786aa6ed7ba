/- Layer 35's statements: the chapter's examples. Layer 35: the plain law of what a delta lists. Two rows of writes, one behind the other, in memory of the call's own. -/
import Derived.Test.YtoljjgabgdifbaaZjH12
import Derived.Test.YtoljjgabgdifbaaZjH10toH11

namespace Go.Proofs.Ytoljjgabgdifbaa.H
open Go.RowKit Go.Proofs.YtoljjgabgdifbaaW.PrintWords Go.Proofs.YtoljjgabgdifbaaW.PrintLast Go.Proofs.YtoljjgabgdifbaaW.PrintMore
set_option linter.unusedVariables false
set_option linter.unusedSimpArgs false

def xB : ByteArray := ⟨#[120]⟩
def rB : ByteArray := ⟨#[114]⟩
def fA : S24 := ⟨[xB], [], rB⟩
def fZ : S24 := ⟨[], [], ⟨#[]⟩⟩
/-- A delta with two digests, whatever they are. -/
def DL (W : World) (base : Nat) (v : Value) (r1 r2 : List S36) (s : ByteArray) : Prop :=
  ∃ L M, L.length = 32 ∧ M.length = 32 ∧ DeltaAt W base v L r1 r2 s M
theorem DL.below {W W' : World} {base : Nat} {v : Value} {r1 r2 : List S36} {s : ByteArray} (h : DL W base v r1 r2 s) (hb : Below W.heap.size W W') : DL W' base v r1 r2 s := by
  obtain ⟨L, M, hL, hM, h⟩ := h
  exact ⟨L, M, hL, hM, h.below hb⟩
theorem DL.lower {W : World} {base b : Nat} {v : Value} {r1 r2 : List S36} {s : ByteArray} (h : DL W base v r1 r2 s) (hb : b ≤ base) : DL W b v r1 r2 s := by
  obtain ⟨L, M, hL, hM, A1, c1, A2, c2, e, h1, h2⟩ := h
  exact ⟨L, M, hL, hM, A1, c1, A2, c2, e, Kd.R_lower h1 hb, Kd.R_lower h2 hb⟩
theorem ofA_calls (h : Nat) (w : World) (hc : Kd.C Kd.string w (some ⟨h, 0, none⟩) 1 [xB]) :
    Calls Try.prog 11 #[.agg #[.slice (some ⟨h, 0, none⟩) 1 1, .slice none 0 0, .string rB], .agg #[.slice (some ⟨h, 0, none⟩) 1 1, .slice none 0 0, .string rB]] w fun e w' => ∃ v, e = .returned v ∧ DL w' w.heap.size v [] [] rB ∧ Below w.heap.size w w' := by
  refine (of_calls 3 (some ⟨h, 0, none⟩) 1 none 0 fA (some ⟨h, 0, none⟩) 1 none 0 fA [] [] w hc (Nat.le_refl _) (Kd.C_nil _ _) (Nat.le_refl _) hc (Nat.le_refl _) (Kd.C_nil _ _) (Nat.le_refl _) (by decide +kernel) (by decide +kernel) (by unfold delta_writes.f; simp [delta_writes.l0, aOf, fA, fZ, rdOf, wrap64]) (by unfold delta_writes.f; simp [delta_writes.l0, aOf, fA, fZ, rdOf, wrap64])).mono ?_
  rintro e w' ⟨A1, c1, A2, c2, rfl, h1, h2, hb⟩
  exact ⟨_, rfl, ⟨_, _, imgSum_len _ _ _, imgSum_len _ _ _, A1, c1, A2, c2, rfl, h1, h2⟩, hb⟩
theorem ofB_calls (h : Nat) (w : World) (hc : Kd.C Kd.string w (some ⟨h, 0, none⟩) 1 [xB]) :
    Calls Try.prog 11 #[.agg #[.slice none 0 0, .slice none 0 0, .string ⟨#[]⟩], .agg #[.slice (some ⟨h, 0, none⟩) 1 1, .slice none 0 0, .string rB]] w fun e w' => ∃ v, e = .returned v ∧ DL w' w.heap.size v [⟨0, xB⟩] [] rB ∧ Below w.heap.size w w' := by
  refine (of_calls 3 none 0 none 0 fZ (some ⟨h, 0, none⟩) 1 none 0 fA [⟨0, xB⟩] [] w (Kd.C_nil _ _) (Nat.le_refl _) (Kd.C_nil _ _) (Nat.le_refl _) hc (Nat.le_refl _) (Kd.C_nil _ _) (Nat.le_refl _) (by decide +kernel) (by decide +kernel) (by unfold delta_writes.f; simp [delta_writes.l0, aOf, fA, fZ, rdOf, wrap64]) (by unfold delta_writes.f; simp [delta_writes.l0, aOf, fA, fZ, rdOf, wrap64])).mono ?_
  rintro e w' ⟨A1, c1, A2, c2, rfl, h1, h2, hb⟩
  exact ⟨_, rfl, ⟨_, _, imgSum_len _ _ _, imgSum_len _ _ _, A1, c1, A2, c2, rfl, h1, h2⟩, hb⟩
theorem dArr_f1 {L M : List Int} {v1 v2 : Value} {s : ByteArray} (hL : L.length = 32) : (dArr L v1 v2 s M)[32]? = some v1 := by
  simp [dArr, nums, List.getElem?_append, hL]
theorem dArr_f2 {L M : List Int} {v1 v2 : Value} {s : ByteArray} (hL : L.length = 32) : (dArr L v1 v2 s M)[33]? = some v2 := by
  simp [dArr, nums, List.getElem?_append, hL]
/-- How far the examples' deltas are told, in whatever order. -/
structure FX (w0 : World) (h : Nat) (W : World) (g : Nat) (cs : Array Value) (v2 v5 : Option Value) (g6 g7 : Option Nat) : Prop where
  below : Below w0.heap.size w0 W
  low : w0.heap.size ≤ g
  box : Blk W g 24 cs
  c0 : Kd.C Kd.string W (some ⟨h, 0, none⟩) 1 [xB]
  d2 : ∀ v, v2 = some v → DL W w0.heap.size v [] [] rB
  d5 : ∀ v, v5 = some v → DL W w0.heap.size v [⟨0, xB⟩] [] rB
  a6 : ∀ k, g6 = some k → Blk W k 32 (dArr (outL [] 0) (.slice none 0 0) (.slice none 0 0) ⟨#[]⟩ (outL [] 0)) ∧ g < k
  a7 : ∀ k, g7 = some k → Blk W k 32 (dArr (outL [] 0) (.slice none 0 0) (.slice none 0 0) ⟨#[]⟩ (outL [] 0)) ∧ g < k
  ne : ∀ j k, g6 = some j → g7 = some k → j ≠ k
section
variable {w0 W W' : World} {h g : Nat} {cs : Array Value} {v2 v5 : Option Value} {g6 g7 : Option Nat}
theorem FX.on (X : FX w0 h W g cs v2 v5 g6 g7) (hb : Below W.heap.size W W') : FX w0 h W' g cs v2 v5 g6 g7 :=
  ⟨below_then X.below X.below.size hb, X.low, X.box.below hb X.box.lt, Kd.C_below X.c0 hb, fun v e => (X.d2 v e).below hb, fun v e => (X.d5 v e).below hb,
    fun k e => ⟨(X.a6 k e).1.below hb (X.a6 k e).1.lt, (X.a6 k e).2⟩, fun k e => ⟨(X.a7 k e).1.below hb (X.a7 k e).1.lt, (X.a7 k e).2⟩, X.ne⟩
theorem FX.set2 (X : FX w0 h W g cs v2 v5 g6 g7) {v : Value} (d : DL W w0.heap.size v [] [] rB) : FX w0 h W g cs (some v) v5 g6 g7 :=
  ⟨X.below, X.low, X.box, X.c0, fun u e => by injection e with e; subst e; exact d, X.d5, X.a6, X.a7, X.ne⟩
theorem FX.set5 (X : FX w0 h W g cs v2 v5 g6 g7) {v : Value} (d : DL W w0.heap.size v [⟨0, xB⟩] [] rB) : FX w0 h W g cs v2 (some v) g6 g7 :=
  ⟨X.below, X.low, X.box, X.c0, X.d2, fun u e => by injection e with e; subst e; exact d, X.a6, X.a7, X.ne⟩
theorem FX.alloc6 (X : FX w0 h W g cs v2 v5 none g7) : FX w0 h (W.alloc (.cells Try.zeroCells32 32)) g cs v2 v5 (some W.heap.size) g7 := by
  have Y := X.on (below_alloc (Below.refl _ _) (.cells Try.zeroCells32 32))
  refine ⟨Y.below, Y.low, Y.box, Y.c0, Y.d2, Y.d5, fun k e => ?_, Y.a7, fun j k e1 e2 => ?_⟩
  · injection e with e
    subst e
    rw [← z32]
    exact ⟨Blk.new _ _ _, X.box.lt⟩
  · injection e1 with e1
    subst e1
    have := (X.a7 k e2).1.lt
    omega
theorem FX.alloc7 (X : FX w0 h W g cs v2 v5 g6 none) : FX w0 h (W.alloc (.cells Try.zeroCells32 32)) g cs v2 v5 g6 (some W.heap.size) := by
  have Y := X.on (below_alloc (Below.refl _ _) (.cells Try.zeroCells32 32))
  refine ⟨Y.below, Y.low, Y.box, Y.c0, Y.d2, Y.d5, Y.a6, fun k e => ?_, fun j k e1 e2 => ?_⟩
  · injection e with e
    subst e
    rw [← z32]
    exact ⟨Blk.new _ _ _, X.box.lt⟩
  · injection e2 with e2
    subst e2
    have := (X.a6 j e1).1.lt
    omega
end

set_option maxRecDepth 100000 in
set_option maxHeartbeats 8000000 in
theorem fixed_calls (w : World) : Calls Try.prog 9 #[] w fun e w' => e = .returned (.bool true) ∧ Below w.heap.size w w' := by
  go_enter Try.func9, Try.ntmps9
  go_wp2_with fail
  have X : FX w w.heap.size ((w.alloc (.cells #[.string xB] 9)).alloc (.cells #[.slice (some ⟨w.heap.size, 0, none⟩) 1 1, .slice none 0 0, .string rB] 24)) (w.heap.size + 1) #[.slice (some ⟨w.heap.size, 0, none⟩) 1 1, .slice none 0 0, .string rB] none none none none := by
    have B := Blk.new (w.alloc (.cells #[.string xB] 9)) 24 #[.slice (some ⟨w.heap.size, 0, none⟩) 1 1, .slice none 0 0, .string rB]
    rw [sz] at B
    exact ⟨((Below.refl w.heap.size w).alloc (Nat.le_refl _) _).alloc (by rw [sz]; omega) _, by omega, B, Kd.C_alloc (strings_new w [xB] (by simp)) _, by simp, by simp, by simp, by simp, by simp⟩
  rw [show (w.alloc (.cells #[.string ⟨#[120]⟩] 9)).alloc (.cells #[.slice (some ⟨w.heap.size, 0, none⟩) 1 1, .slice none 0 0, .string ⟨#[114]⟩] 24) = (w.alloc (.cells #[.string xB] 9)).alloc (.cells #[.slice (some ⟨w.heap.size, 0, none⟩) 1 1, .slice none 0 0, .string rB] 24) from rfl]
  generalize (w.alloc (.cells #[.string xB] 9)).alloc (.cells #[.slice (some ⟨w.heap.size, 0, none⟩) 1 1, .slice none 0 0, .string rB] 24) = w1 at X ⊢
  generalize w.heap.size + 1 = g at X ⊢
  obtain ⟨h, eh⟩ : ∃ h, h = w.heap.size := ⟨_, rfl⟩
  rw [← eh]
  replace X : FX w h w1 g #[.slice (some ⟨h, 0, none⟩) 1 1, .slice none 0 0, .string rB] none none none none := by rw [eh]; exact X
  clear eh
  have X0 := Aside0.mk (X.on (below_drew (Below.refl _ w1)))
  clear X
  refine start_ (n := 10) (S := fun w' => Blk w' g 24 #[.slice (some ⟨h, 0, none⟩) 1 1, .slice none 0 0, .string rB]) (ds := [8, 9]) #[false, false, false, false, false, false, false, false, false, false] (by kernel_rfl) rfl rfl (X0.out.box) (fun hHeld => ?_)
  generalize w1.drew = wd at hHeld X0 ⊢
  refine pure_ (i := 3) (N := some 9) (v := ?_) (a' := ?_) #[false, false, false, true, false, false, false, false, false, false] rfl rfl (by kernel_rfl) (fun _ _ _ h => h) (Or.inl ⟨by rfl, ?_⟩) ?_ ?_
  rotate_left
  · intro w'
    go_simp
    with_reducible rfl
  rotate_left
  · simp only [Act.put, List.setIfInBounds_toArray, List.set_cons_zero, List.set_cons_succ, i64_w, i32_w]
    rfl
  refine take_ (i := 0) (N := some 6) (v := ?_) (a' := ?_) #[true, false, false, true, false, false, false, false, false, false] rfl rfl (by kernel_rfl) (fun _ _ _ h => h) (Or.inl ⟨by rfl, ?_⟩) hHeld ?_ ?_
  rotate_left
  · intro w' s0
    refine row_loads 24 (.tmp 1) ?_ g ?_ s0 Try.underlying24 ?_ ?_
    · rfl
    · rfl
    · rfl
    · kernel_rfl
  rotate_left
  · simp only [Act.put, List.setIfInBounds_toArray, List.set_cons_zero, List.set_cons_succ, i64_w, i32_w]
    rfl
  refine take_ (i := 1) (N := some 7) (v := ?_) (a' := ?_) #[true, true, false, true, false, false, false, false, false, false] rfl rfl (by kernel_rfl) (fun _ _ _ h => h) (Or.inl ⟨by rfl, ?_⟩) hHeld ?_ ?_
  rotate_left
  · intro w' s0
    refine row_loads 24 (.tmp 1) ?_ g ?_ s0 Try.underlying24 ?_ ?_
    · rfl
    · rfl
    · rfl
    · kernel_rfl
  rotate_left
  · simp only [Act.put, List.setIfInBounds_toArray, List.set_cons_zero, List.set_cons_succ, i64_w, i32_w]
    rfl
  refine take_ (i := 4) (N := some 10) (v := ?_) (a' := ?_) #[true, true, false, true, true, false, false, false, false, false] rfl rfl (by kernel_rfl) (fun _ _ _ h => h) (Or.inl ⟨by rfl, ?_⟩) hHeld ?_ ?_
  rotate_left
  · intro w' s0
    refine row_loads 24 (.tmp 1) ?_ g ?_ s0 Try.underlying24 ?_ ?_
    · rfl
    · rfl
    · rfl
    · kernel_rfl
  rotate_left
  · simp only [Act.put, List.setIfInBounds_toArray, List.set_cons_zero, List.set_cons_succ, i64_w, i32_w]
    rfl
  refine join_ (σ := Value × Value × Nat × Nat) 2 #[true, true, true, true, true, true, true, true, false, false] (fun s => [(8, s.1), (11, s.2.1), (2, .pointer (some ⟨s.2.2.1, 0, none⟩)), (3, .pointer (some ⟨s.2.2.2, 0, none⟩))]) (fun s w' => FX w h w' g #[.slice (some ⟨h, 0, none⟩) 1 1, .slice none 0 0, .string rB] (some s.1) (some s.2.1) (some s.2.2.1) (some s.2.2.2)) ?_ ?_
  rotate_left
  · intro hCont
    refine three_ (i := 2) (j := 6) (k := 7) (Ni := some 8) (Nj := some 2) (Nk := some 3) #[true, true, true, true, true, false, false, false, false, false] #[true, true, false, true, true, false, true, false, false, false] #[true, true, false, true, true, false, false, true, false, false] rfl rfl rfl rfl rfl rfl (by kernel_rfl) (by decide) (by decide) (by decide) (fun K hK => ?_) (fun K hK => ?_) (fun K hK => ?_)
    · skip
      refine goes_ Try.func11 (by kernel_rfl) rfl #[.agg #[.slice (some ⟨h, 0, none⟩) 1 1, .slice none 0 0, .string rB], .agg #[.slice (some ⟨h, 0, none⟩) 1 1, .slice none 0 0, .string rB]] (by rfl) rfl rfl (by simp only [List.map_toArray, List.map_cons, List.map_nil]; rfl) ?_
      with_reducible refine (ofA_calls h _ X0.out.c0).mono ?_
      rintro e w3 ⟨va, rfl, hd, hb⟩
      refine ⟨_, rfl, ?_⟩
      have X1 := Aside0.mk ((X0.out.on hb).set2 (hd.lower X0.out.below.size))
      clear hd hb
      refine hK.out _ _ (X1.out.box) (fun hHeld => ?_)
      clear hK K
      refine norm_ (a' := ?_) ?_ ?_
      rotate_left
      · show Act.put _ (some 8) _ = _
        simp only [Act.put, List.setIfInBounds_toArray, List.set_cons_zero, List.set_cons_succ, i64_w, i32_w]
        rfl
      refine three_ (i := 5) (j := 6) (k := 7) (Ni := some 11) (Nj := some 2) (Nk := some 3) #[true, true, true, true, true, true, false, false, false, false] #[true, true, true, true, true, false, true, false, false, false] #[true, true, true, true, true, false, false, true, false, false] rfl rfl rfl rfl rfl rfl (by kernel_rfl) (by decide) (by decide) (by decide) (fun K hK => ?_) (fun K hK => ?_) (fun K hK => ?_)
      · skip
        refine goes_ Try.func11 (by kernel_rfl) rfl #[.agg #[.slice none 0 0, .slice none 0 0, .string ⟨#[]⟩], .agg #[.slice (some ⟨h, 0, none⟩) 1 1, .slice none 0 0, .string rB]] (by rfl) rfl rfl (by simp only [List.map_toArray, List.map_cons, List.map_nil]; rfl) ?_
        with_reducible refine (ofB_calls h _ X1.out.c0).mono ?_
        rintro e w4 ⟨vb, rfl, hd, hb⟩
        refine ⟨_, rfl, ?_⟩
        have X2 := Aside0.mk ((X1.out.on hb).set5 (hd.lower X1.out.below.size))
        clear hd hb
        refine hK.out _ _ (X2.out.box) (fun hHeld => ?_)
        clear hK K
        refine norm_ (a' := ?_) ?_ ?_
        rotate_left
        · show Act.put _ (some 11) _ = _
          simp only [Act.put, List.setIfInBounds_toArray, List.set_cons_zero, List.set_cons_succ, i64_w, i32_w]
          rfl
        refine two_ (i := 6) (j := 7) (Ni := some 2) (Nj := some 3) #[true, true, true, true, true, true, true, false, false, false] #[true, true, true, true, true, true, false, true, false, false] rfl rfl rfl rfl (by kernel_rfl) (by decide) (by decide) (fun K hK => ?_) (fun K hK => ?_)
        · skip
          refine value_ (w1 := ?_) (v := ?_) (by rfl) rfl ?_ ?_
          rotate_left 2
          · go_simp
            constructor
            · rfl
            · rfl
          have X3 := Aside0.mk (X2.out.alloc6)
          generalize w4.alloc (.cells Try.zeroCells32 32) = w5 at X3 ⊢
          generalize w4.heap.size = k6 at X3 ⊢
          refine hK.out _ _ (X3.out.box) (fun hHeld => ?_)
          clear hK K
          refine norm_ (a' := ?_) ?_ ?_
          rotate_left
          · show Act.put _ (some 2) _ = _
            simp only [Act.put, List.setIfInBounds_toArray, List.set_cons_zero, List.set_cons_succ, i64_w, i32_w]
            rfl
          refine one_ (i := 7) (N := some 3) #[true, true, true, true, true, true, true, true, false, false] rfl rfl (by kernel_rfl) (by decide) (fun K hK => ?_)
          refine value_ (w1 := ?_) (v := ?_) (by rfl) rfl ?_ ?_
          rotate_left 2
          · go_simp
            constructor
            · rfl
            · rfl
          have X4 := Aside0.mk (X3.out.alloc7)
          generalize w5.alloc (.cells Try.zeroCells32 32) = w6 at X4 ⊢
          generalize w5.heap.size = k7 at X4 ⊢
          refine hK.out _ _ (X4.out.box) (fun hHeld => ?_)
          clear hK K
          refine norm_ (a' := ?_) ?_ ?_
          rotate_left
          · show Act.put _ (some 3) _ = _
            simp only [Act.put, List.setIfInBounds_toArray, List.set_cons_zero, List.set_cons_succ, i64_w, i32_w]
            rfl
          exact norm_ (by simp only [putAll, Act.put, List.setIfInBounds_toArray, List.set_cons_zero, List.set_cons_succ, sz]) (hCont ⟨va, vb, k6, k7⟩ _ X4.out)
        · skip
          refine value_ (w1 := ?_) (v := ?_) (by rfl) rfl ?_ ?_
          rotate_left 2
          · go_simp
            constructor
            · rfl
            · rfl
          have X3 := Aside0.mk (X2.out.alloc7)
          generalize w4.alloc (.cells Try.zeroCells32 32) = w5 at X3 ⊢
          generalize w4.heap.size = k7 at X3 ⊢
          refine hK.out _ _ (X3.out.box) (fun hHeld => ?_)
          clear hK K
          refine norm_ (a' := ?_) ?_ ?_
          rotate_left
          · show Act.put _ (some 3) _ = _
            simp only [Act.put, List.setIfInBounds_toArray, List.set_cons_zero, List.set_cons_succ, i64_w, i32_w]
            rfl
          refine one_ (i := 6) (N := some 2) #[true, true, true, true, true, true, true, true, false, false] rfl rfl (by kernel_rfl) (by decide) (fun K hK => ?_)
          refine value_ (w1 := ?_) (v := ?_) (by rfl) rfl ?_ ?_
          rotate_left 2
          · go_simp
            constructor
            · rfl
            · rfl
          have X4 := Aside0.mk (X3.out.alloc6)
          generalize w5.alloc (.cells Try.zeroCells32 32) = w6 at X4 ⊢
          generalize w5.heap.size = k6 at X4 ⊢
          refine hK.out _ _ (X4.out.box) (fun hHeld => ?_)
          clear hK K
          refine norm_ (a' := ?_) ?_ ?_
          rotate_left
          · show Act.put _ (some 2) _ = _
            simp only [Act.put, List.setIfInBounds_toArray, List.set_cons_zero, List.set_cons_succ, i64_w, i32_w]
            rfl
          exact norm_ (by simp only [putAll, Act.put, List.setIfInBounds_toArray, List.set_cons_zero, List.set_cons_succ, sz]) (hCont ⟨va, vb, k6, k7⟩ _ X4.out)
      · skip
        refine value_ (w1 := ?_) (v := ?_) (by rfl) rfl ?_ ?_
        rotate_left 2
        · go_simp
          constructor
          · rfl
          · rfl
        have X2 := Aside0.mk (X1.out.alloc6)
        generalize w3.alloc (.cells Try.zeroCells32 32) = w4 at X2 ⊢
        generalize w3.heap.size = k6 at X2 ⊢
        refine hK.out _ _ (X2.out.box) (fun hHeld => ?_)
        clear hK K
        refine norm_ (a' := ?_) ?_ ?_
        rotate_left
        · show Act.put _ (some 2) _ = _
          simp only [Act.put, List.setIfInBounds_toArray, List.set_cons_zero, List.set_cons_succ, i64_w, i32_w]
          rfl
        refine two_ (i := 5) (j := 7) (Ni := some 11) (Nj := some 3) #[true, true, true, true, true, true, true, false, false, false] #[true, true, true, true, true, false, true, true, false, false] rfl rfl rfl rfl (by kernel_rfl) (by decide) (by decide) (fun K hK => ?_) (fun K hK => ?_)
        · skip
          refine goes_ Try.func11 (by kernel_rfl) rfl #[.agg #[.slice none 0 0, .slice none 0 0, .string ⟨#[]⟩], .agg #[.slice (some ⟨h, 0, none⟩) 1 1, .slice none 0 0, .string rB]] (by rfl) rfl rfl (by simp only [List.map_toArray, List.map_cons, List.map_nil]; rfl) ?_
          with_reducible refine (ofB_calls h _ X2.out.c0).mono ?_
          rintro e w5 ⟨vb, rfl, hd, hb⟩
          refine ⟨_, rfl, ?_⟩
          have X3 := Aside0.mk ((X2.out.on hb).set5 (hd.lower X2.out.below.size))
          clear hd hb
          refine hK.out _ _ (X3.out.box) (fun hHeld => ?_)
          clear hK K
          refine norm_ (a' := ?_) ?_ ?_
          rotate_left
          · show Act.put _ (some 11) _ = _
            simp only [Act.put, List.setIfInBounds_toArray, List.set_cons_zero, List.set_cons_succ, i64_w, i32_w]
            rfl
          refine one_ (i := 7) (N := some 3) #[true, true, true, true, true, true, true, true, false, false] rfl rfl (by kernel_rfl) (by decide) (fun K hK => ?_)
          refine value_ (w1 := ?_) (v := ?_) (by rfl) rfl ?_ ?_
          rotate_left 2
          · go_simp
            constructor
            · rfl
            · rfl
          have X4 := Aside0.mk (X3.out.alloc7)
          generalize w5.alloc (.cells Try.zeroCells32 32) = w6 at X4 ⊢
          generalize w5.heap.size = k7 at X4 ⊢
          refine hK.out _ _ (X4.out.box) (fun hHeld => ?_)
          clear hK K
          refine norm_ (a' := ?_) ?_ ?_
          rotate_left
          · show Act.put _ (some 3) _ = _
            simp only [Act.put, List.setIfInBounds_toArray, List.set_cons_zero, List.set_cons_succ, i64_w, i32_w]
            rfl
          exact norm_ (by simp only [putAll, Act.put, List.setIfInBounds_toArray, List.set_cons_zero, List.set_cons_succ, sz]) (hCont ⟨va, vb, k6, k7⟩ _ X4.out)
        · skip
          refine value_ (w1 := ?_) (v := ?_) (by rfl) rfl ?_ ?_
          rotate_left 2
          · go_simp
            constructor
            · rfl
            · rfl
          have X3 := Aside0.mk (X2.out.alloc7)
          generalize w4.alloc (.cells Try.zeroCells32 32) = w5 at X3 ⊢
          generalize w4.heap.size = k7 at X3 ⊢
          refine hK.out _ _ (X3.out.box) (fun hHeld => ?_)
          clear hK K
          refine norm_ (a' := ?_) ?_ ?_
          rotate_left
          · show Act.put _ (some 3) _ = _
            simp only [Act.put, List.setIfInBounds_toArray, List.set_cons_zero, List.set_cons_succ, i64_w, i32_w]
            rfl
          refine one_ (i := 5) (N := some 11) #[true, true, true, true, true, true, true, true, false, false] rfl rfl (by kernel_rfl) (by decide) (fun K hK => ?_)
          refine goes_ Try.func11 (by kernel_rfl) rfl #[.agg #[.slice none 0 0, .slice none 0 0, .string ⟨#[]⟩], .agg #[.slice (some ⟨h, 0, none⟩) 1 1, .slice none 0 0, .string rB]] (by rfl) rfl rfl (by simp only [List.map_toArray, List.map_cons, List.map_nil]; rfl) ?_
          with_reducible refine (ofB_calls h _ X3.out.c0).mono ?_
          rintro e w6 ⟨vb, rfl, hd, hb⟩
          refine ⟨_, rfl, ?_⟩
          have X4 := Aside0.mk ((X3.out.on hb).set5 (hd.lower X3.out.below.size))
          clear hd hb
          refine hK.out _ _ (X4.out.box) (fun hHeld => ?_)
          clear hK K
          refine norm_ (a' := ?_) ?_ ?_
          rotate_left
          · show Act.put _ (some 11) _ = _
            simp only [Act.put, List.setIfInBounds_toArray, List.set_cons_zero, List.set_cons_succ, i64_w, i32_w]
            rfl
          exact norm_ (by simp only [putAll, Act.put, List.setIfInBounds_toArray, List.set_cons_zero, List.set_cons_succ, sz]) (hCont ⟨va, vb, k6, k7⟩ _ X4.out)
      · skip
        refine value_ (w1 := ?_) (v := ?_) (by rfl) rfl ?_ ?_
        rotate_left 2
        · go_simp
          constructor
          · rfl
          · rfl
        have X2 := Aside0.mk (X1.out.alloc7)
        generalize w3.alloc (.cells Try.zeroCells32 32) = w4 at X2 ⊢
        generalize w3.heap.size = k7 at X2 ⊢
        refine hK.out _ _ (X2.out.box) (fun hHeld => ?_)
        clear hK K
        refine norm_ (a' := ?_) ?_ ?_
        rotate_left
        · show Act.put _ (some 3) _ = _
          simp only [Act.put, List.setIfInBounds_toArray, List.set_cons_zero, List.set_cons_succ, i64_w, i32_w]
          rfl
        refine two_ (i := 5) (j := 6) (Ni := some 11) (Nj := some 2) #[true, true, true, true, true, true, false, true, false, false] #[true, true, true, true, true, false, true, true, false, false] rfl rfl rfl rfl (by kernel_rfl) (by decide) (by decide) (fun K hK => ?_) (fun K hK => ?_)
        · skip
          refine goes_ Try.func11 (by kernel_rfl) rfl #[.agg #[.slice none 0 0, .slice none 0 0, .string ⟨#[]⟩], .agg #[.slice (some ⟨h, 0, none⟩) 1 1, .slice none 0 0, .string rB]] (by rfl) rfl rfl (by simp only [List.map_toArray, List.map_cons, List.map_nil]; rfl) ?_
          with_reducible refine (ofB_calls h _ X2.out.c0).mono ?_
          rintro e w5 ⟨vb, rfl, hd, hb⟩
          refine ⟨_, rfl, ?_⟩
          have X3 := Aside0.mk ((X2.out.on hb).set5 (hd.lower X2.out.below.size))
          clear hd hb
          refine hK.out _ _ (X3.out.box) (fun hHeld => ?_)
          clear hK K
          refine norm_ (a' := ?_) ?_ ?_
          rotate_left
          · show Act.put _ (some 11) _ = _
            simp only [Act.put, List.setIfInBounds_toArray, List.set_cons_zero, List.set_cons_succ, i64_w, i32_w]
            rfl
          refine one_ (i := 6) (N := some 2) #[true, true, true, true, true, true, true, true, false, false] rfl rfl (by kernel_rfl) (by decide) (fun K hK => ?_)
          refine value_ (w1 := ?_) (v := ?_) (by rfl) rfl ?_ ?_
          rotate_left 2
          · go_simp
            constructor
            · rfl
            · rfl
          have X4 := Aside0.mk (X3.out.alloc6)
          generalize w5.alloc (.cells Try.zeroCells32 32) = w6 at X4 ⊢
          generalize w5.heap.size = k6 at X4 ⊢
          refine hK.out _ _ (X4.out.box) (fun hHeld => ?_)
          clear hK K
          refine norm_ (a' := ?_) ?_ ?_
          rotate_left
          · show Act.put _ (some 2) _ = _
            simp only [Act.put, List.setIfInBounds_toArray, List.set_cons_zero, List.set_cons_succ, i64_w, i32_w]
            rfl
          exact norm_ (by simp only [putAll, Act.put, List.setIfInBounds_toArray, List.set_cons_zero, List.set_cons_succ, sz]) (hCont ⟨va, vb, k6, k7⟩ _ X4.out)
        · skip
          refine value_ (w1 := ?_) (v := ?_) (by rfl) rfl ?_ ?_
          rotate_left 2
          · go_simp
            constructor
            · rfl
            · rfl
          have X3 := Aside0.mk (X2.out.alloc6)
          generalize w4.alloc (.cells Try.zeroCells32 32) = w5 at X3 ⊢
          generalize w4.heap.size = k6 at X3 ⊢
          refine hK.out _ _ (X3.out.box) (fun hHeld => ?_)
          clear hK K
          refine norm_ (a' := ?_) ?_ ?_
          rotate_left
          · show Act.put _ (some 2) _ = _
            simp only [Act.put, List.setIfInBounds_toArray, List.set_cons_zero, List.set_cons_succ, i64_w, i32_w]
            rfl
          refine one_ (i := 5) (N := some 11) #[true, true, true, true, true, true, true, true, false, false] rfl rfl (by kernel_rfl) (by decide) (fun K hK => ?_)
          refine goes_ Try.func11 (by kernel_rfl) rfl #[.agg #[.slice none 0 0, .slice none 0 0, .string ⟨#[]⟩], .agg #[.slice (some ⟨h, 0, none⟩) 1 1, .slice none 0 0, .string rB]] (by rfl) rfl rfl (by simp only [List.map_toArray, List.map_cons, List.map_nil]; rfl) ?_
          with_reducible refine (ofB_calls h _ X3.out.c0).mono ?_
          rintro e w6 ⟨vb, rfl, hd, hb⟩
          refine ⟨_, rfl, ?_⟩
          have X4 := Aside0.mk ((X3.out.on hb).set5 (hd.lower X3.out.below.size))
          clear hd hb
          refine hK.out _ _ (X4.out.box) (fun hHeld => ?_)
          clear hK K
          refine norm_ (a' := ?_) ?_ ?_
          rotate_left
          · show Act.put _ (some 11) _ = _
            simp only [Act.put, List.setIfInBounds_toArray, List.set_cons_zero, List.set_cons_succ, i64_w, i32_w]
            rfl
          exact norm_ (by simp only [putAll, Act.put, List.setIfInBounds_toArray, List.set_cons_zero, List.set_cons_succ, sz]) (hCont ⟨va, vb, k6, k7⟩ _ X4.out)
    · skip
      refine value_ (w1 := ?_) (v := ?_) (by rfl) rfl ?_ ?_
      rotate_left 2
      · go_simp
        constructor
        · rfl
        · rfl
      have X1 := Aside0.mk (X0.out.alloc6)
      generalize wd.alloc (.cells Try.zeroCells32 32) = w3 at X1 ⊢
      generalize wd.heap.size = k6 at X1 ⊢
      refine hK.out _ _ (X1.out.box) (fun hHeld => ?_)
      clear hK K
      refine norm_ (a' := ?_) ?_ ?_
      rotate_left
      · show Act.put _ (some 2) _ = _
        simp only [Act.put, List.setIfInBounds_toArray, List.set_cons_zero, List.set_cons_succ, i64_w, i32_w]
        rfl
      refine two_ (i := 2) (j := 7) (Ni := some 8) (Nj := some 3) #[true, true, true, true, true, false, true, false, false, false] #[true, true, false, true, true, false, true, true, false, false] rfl rfl rfl rfl (by kernel_rfl) (by decide) (by decide) (fun K hK => ?_) (fun K hK => ?_)
      · skip
        refine goes_ Try.func11 (by kernel_rfl) rfl #[.agg #[.slice (some ⟨h, 0, none⟩) 1 1, .slice none 0 0, .string rB], .agg #[.slice (some ⟨h, 0, none⟩) 1 1, .slice none 0 0, .string rB]] (by rfl) rfl rfl (by simp only [List.map_toArray, List.map_cons, List.map_nil]; rfl) ?_
        with_reducible refine (ofA_calls h _ X1.out.c0).mono ?_
        rintro e w4 ⟨va, rfl, hd, hb⟩
        refine ⟨_, rfl, ?_⟩
        have X2 := Aside0.mk ((X1.out.on hb).set2 (hd.lower X1.out.below.size))
        clear hd hb
        refine hK.out _ _ (X2.out.box) (fun hHeld => ?_)
        clear hK K
        refine norm_ (a' := ?_) ?_ ?_
        rotate_left
        · show Act.put _ (some 8) _ = _
          simp only [Act.put, List.setIfInBounds_toArray, List.set_cons_zero, List.set_cons_succ, i64_w, i32_w]
          rfl
        refine two_ (i := 5) (j := 7) (Ni := some 11) (Nj := some 3) #[true, true, true, true, true, true, true, false, false, false] #[true, true, true, true, true, false, true, true, false, false] rfl rfl rfl rfl (by kernel_rfl) (by decide) (by decide) (fun K hK => ?_) (fun K hK => ?_)
        · skip
          refine goes_ Try.func11 (by kernel_rfl) rfl #[.agg #[.slice none 0 0, .slice none 0 0, .string ⟨#[]⟩], .agg #[.slice (some ⟨h, 0, none⟩) 1 1, .slice none 0 0, .string rB]] (by rfl) rfl rfl (by simp only [List.map_toArray, List.map_cons, List.map_nil]; rfl) ?_
          with_reducible refine (ofB_calls h _ X2.out.c0).mono ?_
          rintro e w5 ⟨vb, rfl, hd, hb⟩
          refine ⟨_, rfl, ?_⟩
          have X3 := Aside0.mk ((X2.out.on hb).set5 (hd.lower X2.out.below.size))
          clear hd hb
          refine hK.out _ _ (X3.out.box) (fun hHeld => ?_)
          clear hK K
          refine norm_ (a' := ?_) ?_ ?_
          rotate_left
          · show Act.put _ (some 11) _ = _
            simp only [Act.put, List.setIfInBounds_toArray, List.set_cons_zero, List.set_cons_succ, i64_w, i32_w]
            rfl
          refine one_ (i := 7) (N := some 3) #[true, true, true, true, true, true, true, true, false, false] rfl rfl (by kernel_rfl) (by decide) (fun K hK => ?_)
          refine value_ (w1 := ?_) (v := ?_) (by rfl) rfl ?_ ?_
          rotate_left 2
          · go_simp
            constructor
            · rfl
            · rfl
          have X4 := Aside0.mk (X3.out.alloc7)
          generalize w5.alloc (.cells Try.zeroCells32 32) = w6 at X4 ⊢
          generalize w5.heap.size = k7 at X4 ⊢
          refine hK.out _ _ (X4.out.box) (fun hHeld => ?_)
          clear hK K
          refine norm_ (a' := ?_) ?_ ?_
          rotate_left
          · show Act.put _ (some 3) _ = _
            simp only [Act.put, List.setIfInBounds_toArray, List.set_cons_zero, List.set_cons_succ, i64_w, i32_w]
            rfl
          exact norm_ (by simp only [putAll, Act.put, List.setIfInBounds_toArray, List.set_cons_zero, List.set_cons_succ, sz]) (hCont ⟨va, vb, k6, k7⟩ _ X4.out)
        · skip
          refine value_ (w1 := ?_) (v := ?_) (by rfl) rfl ?_ ?_
          rotate_left 2
          · go_simp
            constructor
            · rfl
            · rfl
          have X3 := Aside0.mk (X2.out.alloc7)
          generalize w4.alloc (.cells Try.zeroCells32 32) = w5 at X3 ⊢
          generalize w4.heap.size = k7 at X3 ⊢
          refine hK.out _ _ (X3.out.box) (fun hHeld => ?_)
          clear hK K
          refine norm_ (a' := ?_) ?_ ?_
          rotate_left
          · show Act.put _ (some 3) _ = _
            simp only [Act.put, List.setIfInBounds_toArray, List.set_cons_zero, List.set_cons_succ, i64_w, i32_w]
            rfl
          refine one_ (i := 5) (N := some 11) #[true, true, true, true, true, true, true, true, false, false] rfl rfl (by kernel_rfl) (by decide) (fun K hK => ?_)
          refine goes_ Try.func11 (by kernel_rfl) rfl #[.agg #[.slice none 0 0, .slice none 0 0, .string ⟨#[]⟩], .agg #[.slice (some ⟨h, 0, none⟩) 1 1, .slice none 0 0, .string rB]] (by rfl) rfl rfl (by simp only [List.map_toArray, List.map_cons, List.map_nil]; rfl) ?_
          with_reducible refine (ofB_calls h _ X3.out.c0).mono ?_
          rintro e w6 ⟨vb, rfl, hd, hb⟩
          refine ⟨_, rfl, ?_⟩
          have X4 := Aside0.mk ((X3.out.on hb).set5 (hd.lower X3.out.below.size))
          clear hd hb
          refine hK.out _ _ (X4.out.box) (fun hHeld => ?_)
          clear hK K
          refine norm_ (a' := ?_) ?_ ?_
          rotate_left
          · show Act.put _ (some 11) _ = _
            simp only [Act.put, List.setIfInBounds_toArray, List.set_cons_zero, List.set_cons_succ, i64_w, i32_w]
            rfl
          exact norm_ (by simp only [putAll, Act.put, List.setIfInBounds_toArray, List.set_cons_zero, List.set_cons_succ, sz]) (hCont ⟨va, vb, k6, k7⟩ _ X4.out)
      · skip
        refine value_ (w1 := ?_) (v := ?_) (by rfl) rfl ?_ ?_
        rotate_left 2
        · go_simp
          constructor
          · rfl
          · rfl
        have X2 := Aside0.mk (X1.out.alloc7)
        generalize w3.alloc (.cells Try.zeroCells32 32) = w4 at X2 ⊢
        generalize w3.heap.size = k7 at X2 ⊢
        refine hK.out _ _ (X2.out.box) (fun hHeld => ?_)
        clear hK K
        refine norm_ (a' := ?_) ?_ ?_
        rotate_left
        · show Act.put _ (some 3) _ = _
          simp only [Act.put, List.setIfInBounds_toArray, List.set_cons_zero, List.set_cons_succ, i64_w, i32_w]
          rfl
        refine one_ (i := 2) (N := some 8) #[true, true, true, true, true, false, true, true, false, false] rfl rfl (by kernel_rfl) (by decide) (fun K hK => ?_)
        refine goes_ Try.func11 (by kernel_rfl) rfl #[.agg #[.slice (some ⟨h, 0, none⟩) 1 1, .slice none 0 0, .string rB], .agg #[.slice (some ⟨h, 0, none⟩) 1 1, .slice none 0 0, .string rB]] (by rfl) rfl rfl (by simp only [List.map_toArray, List.map_cons, List.map_nil]; rfl) ?_
        with_reducible refine (ofA_calls h _ X2.out.c0).mono ?_
        rintro e w5 ⟨va, rfl, hd, hb⟩
        refine ⟨_, rfl, ?_⟩
        have X3 := Aside0.mk ((X2.out.on hb).set2 (hd.lower X2.out.below.size))
        clear hd hb
        refine hK.out _ _ (X3.out.box) (fun hHeld => ?_)
        clear hK K
        refine norm_ (a' := ?_) ?_ ?_
        rotate_left
        · show Act.put _ (some 8) _ = _
          simp only [Act.put, List.setIfInBounds_toArray, List.set_cons_zero, List.set_cons_succ, i64_w, i32_w]
          rfl
        refine one_ (i := 5) (N := some 11) #[true, true, true, true, true, true, true, true, false, false] rfl rfl (by kernel_rfl) (by decide) (fun K hK => ?_)
        refine goes_ Try.func11 (by kernel_rfl) rfl #[.agg #[.slice none 0 0, .slice none 0 0, .string ⟨#[]⟩], .agg #[.slice (some ⟨h, 0, none⟩) 1 1, .slice none 0 0, .string rB]] (by rfl) rfl rfl (by simp only [List.map_toArray, List.map_cons, List.map_nil]; rfl) ?_
        with_reducible refine (ofB_calls h _ X3.out.c0).mono ?_
        rintro e w6 ⟨vb, rfl, hd, hb⟩
        refine ⟨_, rfl, ?_⟩
        have X4 := Aside0.mk ((X3.out.on hb).set5 (hd.lower X3.out.below.size))
        clear hd hb
        refine hK.out _ _ (X4.out.box) (fun hHeld => ?_)
        clear hK K
        refine norm_ (a' := ?_) ?_ ?_
        rotate_left
        · show Act.put _ (some 11) _ = _
          simp only [Act.put, List.setIfInBounds_toArray, List.set_cons_zero, List.set_cons_succ, i64_w, i32_w]
          rfl
        exact norm_ (by simp only [putAll, Act.put, List.setIfInBounds_toArray, List.set_cons_zero, List.set_cons_succ, sz]) (hCont ⟨va, vb, k6, k7⟩ _ X4.out)
    · skip
      refine value_ (w1 := ?_) (v := ?_) (by rfl) rfl ?_ ?_
      rotate_left 2
      · go_simp
        constructor
        · rfl
        · rfl
      have X1 := Aside0.mk (X0.out.alloc7)
      generalize wd.alloc (.cells Try.zeroCells32 32) = w3 at X1 ⊢
      generalize wd.heap.size = k7 at X1 ⊢
      refine hK.out _ _ (X1.out.box) (fun hHeld => ?_)
      clear hK K
      refine norm_ (a' := ?_) ?_ ?_
      rotate_left
      · show Act.put _ (some 3) _ = _
        simp only [Act.put, List.setIfInBounds_toArray, List.set_cons_zero, List.set_cons_succ, i64_w, i32_w]
        rfl
      refine two_ (i := 2) (j := 6) (Ni := some 8) (Nj := some 2) #[true, true, true, true, true, false, false, true, false, false] #[true, true, false, true, true, false, true, true, false, false] rfl rfl rfl rfl (by kernel_rfl) (by decide) (by decide) (fun K hK => ?_) (fun K hK => ?_)
      · skip
        refine goes_ Try.func11 (by kernel_rfl) rfl #[.agg #[.slice (some ⟨h, 0, none⟩) 1 1, .slice none 0 0, .string rB], .agg #[.slice (some ⟨h, 0, none⟩) 1 1, .slice none 0 0, .string rB]] (by rfl) rfl rfl (by simp only [List.map_toArray, List.map_cons, List.map_nil]; rfl) ?_
        with_reducible refine (ofA_calls h _ X1.out.c0).mono ?_
        rintro e w4 ⟨va, rfl, hd, hb⟩
        refine ⟨_, rfl, ?_⟩
        have X2 := Aside0.mk ((X1.out.on hb).set2 (hd.lower X1.out.below.size))
        clear hd hb
        refine hK.out _ _ (X2.out.box) (fun hHeld => ?_)
        clear hK K
        refine norm_ (a' := ?_) ?_ ?_
        rotate_left
        · show Act.put _ (some 8) _ = _
          simp only [Act.put, List.setIfInBounds_toArray, List.set_cons_zero, List.set_cons_succ, i64_w, i32_w]
          rfl
        refine two_ (i := 5) (j := 6) (Ni := some 11) (Nj := some 2) #[true, true, true, true, true, true, false, true, false, false] #[true, true, true, true, true, false, true, true, false, false] rfl rfl rfl rfl (by kernel_rfl) (by decide) (by decide) (fun K hK => ?_) (fun K hK => ?_)
        · skip
          refine goes_ Try.func11 (by kernel_rfl) rfl #[.agg #[.slice none 0 0, .slice none 0 0, .string ⟨#[]⟩], .agg #[.slice (some ⟨h, 0, none⟩) 1 1, .slice none 0 0, .string rB]] (by rfl) rfl rfl (by simp only [List.map_toArray, List.map_cons, List.map_nil]; rfl) ?_
          with_reducible refine (ofB_calls h _ X2.out.c0).mono ?_
          rintro e w5 ⟨vb, rfl, hd, hb⟩
          refine ⟨_, rfl, ?_⟩
          have X3 := Aside0.mk ((X2.out.on hb).set5 (hd.lower X2.out.below.size))
          clear hd hb
          refine hK.out _ _ (X3.out.box) (fun hHeld => ?_)
          clear hK K
          refine norm_ (a' := ?_) ?_ ?_
          rotate_left
          · show Act.put _ (some 11) _ = _
            simp only [Act.put, List.setIfInBounds_toArray, List.set_cons_zero, List.set_cons_succ, i64_w, i32_w]
            rfl
          refine one_ (i := 6) (N := some 2) #[true, true, true, true, true, true, true, true, false, false] rfl rfl (by kernel_rfl) (by decide) (fun K hK => ?_)
          refine value_ (w1 := ?_) (v := ?_) (by rfl) rfl ?_ ?_
          rotate_left 2
          · go_simp
            constructor
            · rfl
            · rfl
          have X4 := Aside0.mk (X3.out.alloc6)
          generalize w5.alloc (.cells Try.zeroCells32 32) = w6 at X4 ⊢
          generalize w5.heap.size = k6 at X4 ⊢
          refine hK.out _ _ (X4.out.box) (fun hHeld => ?_)
          clear hK K
          refine norm_ (a' := ?_) ?_ ?_
          rotate_left
          · show Act.put _ (some 2) _ = _
            simp only [Act.put, List.setIfInBounds_toArray, List.set_cons_zero, List.set_cons_succ, i64_w, i32_w]
            rfl
          exact norm_ (by simp only [putAll, Act.put, List.setIfInBounds_toArray, List.set_cons_zero, List.set_cons_succ, sz]) (hCont ⟨va, vb, k6, k7⟩ _ X4.out)
        · skip
          refine value_ (w1 := ?_) (v := ?_) (by rfl) rfl ?_ ?_
          rotate_left 2
          · go_simp
            constructor
            · rfl
            · rfl
          have X3 := Aside0.mk (X2.out.alloc6)
          generalize w4.alloc (.cells Try.zeroCells32 32) = w5 at X3 ⊢
          generalize w4.heap.size = k6 at X3 ⊢
          refine hK.out _ _ (X3.out.box) (fun hHeld => ?_)
          clear hK K
          refine norm_ (a' := ?_) ?_ ?_
          rotate_left
          · show Act.put _ (some 2) _ = _
            simp only [Act.put, List.setIfInBounds_toArray, List.set_cons_zero, List.set_cons_succ, i64_w, i32_w]
            rfl
          refine one_ (i := 5) (N := some 11) #[true, true, true, true, true, true, true, true, false, false] rfl rfl (by kernel_rfl) (by decide) (fun K hK => ?_)
          refine goes_ Try.func11 (by kernel_rfl) rfl #[.agg #[.slice none 0 0, .slice none 0 0, .string ⟨#[]⟩], .agg #[.slice (some ⟨h, 0, none⟩) 1 1, .slice none 0 0, .string rB]] (by rfl) rfl rfl (by simp only [List.map_toArray, List.map_cons, List.map_nil]; rfl) ?_
          with_reducible refine (ofB_calls h _ X3.out.c0).mono ?_
          rintro e w6 ⟨vb, rfl, hd, hb⟩
          refine ⟨_, rfl, ?_⟩
          have X4 := Aside0.mk ((X3.out.on hb).set5 (hd.lower X3.out.below.size))
          clear hd hb
          refine hK.out _ _ (X4.out.box) (fun hHeld => ?_)
          clear hK K
          refine norm_ (a' := ?_) ?_ ?_
          rotate_left
          · show Act.put _ (some 11) _ = _
            simp only [Act.put, List.setIfInBounds_toArray, List.set_cons_zero, List.set_cons_succ, i64_w, i32_w]
            rfl
          exact norm_ (by simp only [putAll, Act.put, List.setIfInBounds_toArray, List.set_cons_zero, List.set_cons_succ, sz]) (hCont ⟨va, vb, k6, k7⟩ _ X4.out)
      · skip
        refine value_ (w1 := ?_) (v := ?_) (by rfl) rfl ?_ ?_
        rotate_left 2
        · go_simp
          constructor
          · rfl
          · rfl
        have X2 := Aside0.mk (X1.out.alloc6)
        generalize w3.alloc (.cells Try.zeroCells32 32) = w4 at X2 ⊢
        generalize w3.heap.size = k6 at X2 ⊢
        refine hK.out _ _ (X2.out.box) (fun hHeld => ?_)
        clear hK K
        refine norm_ (a' := ?_) ?_ ?_
        rotate_left
        · show Act.put _ (some 2) _ = _
          simp only [Act.put, List.setIfInBounds_toArray, List.set_cons_zero, List.set_cons_succ, i64_w, i32_w]
          rfl
        refine one_ (i := 2) (N := some 8) #[true, true, true, true, true, false, true, true, false, false] rfl rfl (by kernel_rfl) (by decide) (fun K hK => ?_)
        refine goes_ Try.func11 (by kernel_rfl) rfl #[.agg #[.slice (some ⟨h, 0, none⟩) 1 1, .slice none 0 0, .string rB], .agg #[.slice (some ⟨h, 0, none⟩) 1 1, .slice none 0 0, .string rB]] (by rfl) rfl rfl (by simp only [List.map_toArray, List.map_cons, List.map_nil]; rfl) ?_
        with_reducible refine (ofA_calls h _ X2.out.c0).mono ?_
        rintro e w5 ⟨va, rfl, hd, hb⟩
        refine ⟨_, rfl, ?_⟩
        have X3 := Aside0.mk ((X2.out.on hb).set2 (hd.lower X2.out.below.size))
        clear hd hb
        refine hK.out _ _ (X3.out.box) (fun hHeld => ?_)
        clear hK K
        refine norm_ (a' := ?_) ?_ ?_
        rotate_left
        · show Act.put _ (some 8) _ = _
          simp only [Act.put, List.setIfInBounds_toArray, List.set_cons_zero, List.set_cons_succ, i64_w, i32_w]
          rfl
        refine one_ (i := 5) (N := some 11) #[true, true, true, true, true, true, true, true, false, false] rfl rfl (by kernel_rfl) (by decide) (fun K hK => ?_)
        refine goes_ Try.func11 (by kernel_rfl) rfl #[.agg #[.slice none 0 0, .slice none 0 0, .string ⟨#[]⟩], .agg #[.slice (some ⟨h, 0, none⟩) 1 1, .slice none 0 0, .string rB]] (by rfl) rfl rfl (by simp only [List.map_toArray, List.map_cons, List.map_nil]; rfl) ?_
        with_reducible refine (ofB_calls h _ X3.out.c0).mono ?_
        rintro e w6 ⟨vb, rfl, hd, hb⟩
        refine ⟨_, rfl, ?_⟩
        have X4 := Aside0.mk ((X3.out.on hb).set5 (hd.lower X3.out.below.size))
        clear hd hb
        refine hK.out _ _ (X4.out.box) (fun hHeld => ?_)
        clear hK K
        refine norm_ (a' := ?_) ?_ ?_
        rotate_left
        · show Act.put _ (some 11) _ = _
          simp only [Act.put, List.setIfInBounds_toArray, List.set_cons_zero, List.set_cons_succ, i64_w, i32_w]
          rfl
        exact norm_ (by simp only [putAll, Act.put, List.setIfInBounds_toArray, List.set_cons_zero, List.set_cons_succ, sz]) (hCont ⟨va, vb, k6, k7⟩ _ X4.out)
  rintro ⟨v2, v5, g6, g7⟩ w9 hX
  replace hX : FX w h w9 g #[.slice (some ⟨h, 0, none⟩) 1 1, .slice none 0 0, .string rB] (some v2) (some v5) (some g6) (some g7) := hX
  have hHeld : Blk w9 g 24 #[.slice (some ⟨h, 0, none⟩) 1 1, .slice none 0 0, .string rB] := hX.box
  obtain ⟨L2, M2, hL2, hM2, P1, p1, P2, p2, ev2, C21, C22⟩ := hX.d2 _ rfl
  obtain ⟨L5, M5, hL5, hM5, Q1, q1, Q2, q2, ev5, C51, C52⟩ := hX.d5 _ rfl
  subst ev2 ev5
  refine norm_ (a' := ?_) ?_ ?_
  rotate_left
  · simp only [putAll, Act.put, List.setIfInBounds_toArray, List.set_cons_zero, List.set_cons_succ]
    rfl
  refine last_ (i := 8) (N := none) #[true, true, true, true, true, true, true, true, true, false] rfl rfl (by kernel_rfl) (by decide) (fun K hK => ?_)
  refine skip_ (w1 := w9.setRow g6 (dArr L2 (.slice P1 ([] : List S36).length p1) (.slice P2 ([] : List S36).length p2) rB M2)) (by rfl) rfl ?_ ?_
  · exact row_stores 32 (.tmp 2) (.tmp 8) rfl g6 _ rfl rfl (hX.a6 _ rfl).1 (by rw [dArr_size hL2 hM2]; kernel_rfl) (by rw [dArr_size hL2 hM2, dArr_size (outL_len _ _) (outL_len _ _)]) (dArr_one _ _ _ _ _ _ _ _ _)
  refine hK.out _ _ ?_
  clear hK K
  refine last_ (i := 9) (N := none) #[true, true, true, true, true, true, true, true, true, true] rfl rfl (by kernel_rfl) (by decide) (fun K hK => ?_)
  refine skip_ (w1 := (w9.setRow g6 (dArr L2 (.slice P1 ([] : List S36).length p1) (.slice P2 ([] : List S36).length p2) rB M2)).setRow g7 (dArr L5 (.slice Q1 [(⟨0, xB⟩ : S36)].length q1) (.slice Q2 ([] : List S36).length q2) rB M5)) (by rfl) rfl ?_ ?_
  · exact row_stores 32 (.tmp 3) (.tmp 11) rfl g7 _ rfl rfl ((hX.a7 _ rfl).1.setRow_far (hX.ne _ _ rfl rfl).symm _) (by rw [dArr_size hL5 hM5]; kernel_rfl) (by rw [dArr_size hL5 hM5, dArr_size (outL_len _ _) (outL_len _ _)]) (dArr_one _ _ _ _ _ _ _ _ _)
  refine hK.out _ _ ?_
  clear hK K
  refine done_ (by kernel_rfl) ?_

  have Bd := ((hX.a6 _ rfl).1.setRow_ (dArr L2 (.slice P1 ([] : List S36).length p1) (.slice P2 ([] : List S36).length p2) rB M2)).setRow_far (k := g7) (hX.ne _ _ rfl rfl) (dArr L5 (.slice Q1 [(⟨0, xB⟩ : S36)].length q1) (.slice Q2 ([] : List S36).length q2) rB M5)
  have Be := ((hX.a7 _ rfl).1.setRow_far (k := g6) (hX.ne _ _ rfl rfl).symm (dArr L2 (.slice P1 ([] : List S36).length p1) (.slice P2 ([] : List S36).length p2) rB M2)).setRow_ (dArr L5 (.slice Q1 [(⟨0, xB⟩ : S36)].length q1) (.slice Q2 ([] : List S36).length q2) rB M5)
  have R5 := R_setRowT (R_setRowT C51 (hX.a6 _ rfl).1 (by decide) (dArr L2 (.slice P1 ([] : List S36).length p1) (.slice P2 ([] : List S36).length p2) rB M2)) ((hX.a7 _ rfl).1.setRow_far (k := g6) (hX.ne _ _ rfl rfl).symm (dArr L2 (.slice P1 ([] : List S36).length p1) (.slice P2 ([] : List S36).length p2) rB M2)) (by decide) (dArr L5 (.slice Q1 [(⟨0, xB⟩ : S36)].length q1) (.slice Q2 ([] : List S36).length q2) rB M5)
  have WZ := below_setRow' (below_setRow' hX.below (show w.heap.size ≤ g6 by have := (hX.a6 _ rfl).2; have := hX.low; omega) (dArr L2 (.slice P1 ([] : List S36).length p1) (.slice P2 ([] : List S36).length p2) rB M2)) (show w.heap.size ≤ g7 by have := (hX.a7 _ rfl).2; have := hX.low; omega) (dArr L5 (.slice Q1 [(⟨0, xB⟩ : S36)].length q1) (.slice Q2 ([] : List S36).length q2) rB M5)
  generalize (w9.setRow g6 (dArr L2 (.slice P1 ([] : List S36).length p1) (.slice P2 ([] : List S36).length p2) rB M2)).setRow g7 (dArr L5 (.slice Q1 [(⟨0, xB⟩ : S36)].length q1) (.slice Q2 ([] : List S36).length q2) rB M5) = wz at Bd Be R5 WZ ⊢
  have d1 := (Bd.cell 32).trans (dArr_f1 hL2)
  have d2 := (Bd.cell 33).trans (dArr_f2 hL2)
  have e1 := (Be.cell 32).trans (dArr_f1 hL5)
  obtain ⟨ad, ea, x1, x2⟩ := at_T36 (Kd.R_reads' R5).2.2 0 (by decide) (by decide)
  clear hX hHeld C51 C52 C21 C22 Bd Be R5
  cases ea
  replace x1 : wz.cell? ad = some (.int .i64 0) := by simpa [rd_T36, show ad.add 0 = ad by simp [Addr.add]] using x1
  replace x2 : wz.cell? ⟨ad.block, ad.off + 1, none⟩ = some (.string ⟨#[120]⟩) := by simpa [rd_T36, xB, show ad.add 0 = ad by simp [Addr.add]] using x2
  go_wp2_with fail
  go_ret
  exact ⟨rfl, WZ⟩
end Go.Proofs.Ytoljjgabgdifbaa.H


namespace Go.Proofs.Ytoljjgabgdifbaa.H
open Go.RowKit Go.Proofs.YtoljjgabgdifbaaW.PrintWords Go.Proofs.YtoljjgabgdifbaaW.PrintLast Go.Proofs.YtoljjgabgdifbaaW.PrintMore
set_option linter.unusedVariables false
set_option linter.unusedSimpArgs false

def at_ (x : List ByteArray) (i : Nat) : ByteArray := x.getD i ByteArray.empty
/-- Is text i new or another one? -/
def unlike (x y : List ByteArray) (i : Nat) : Bool := decide (x.length ≤ i) || !decide ((at_ x i).toList = (at_ y i).toList)
/-- What is other among the first i. -/
def chg (x y : List ByteArray) : Nat → List S36
  | 0 => []
  | i + 1 => if unlike x y i then chg x y i ++ [⟨(i : Int), at_ y i⟩] else chg x y i
theorem chg_len (x y : List ByteArray) : ∀ i, (chg x y i).length ≤ i
  | 0 => Nat.le_refl _
  | i + 1 => by
    have := chg_len x y i
    rw [chg]
    split
    · rw [List.length_append, List.length_singleton]; omega
    · omega
theorem chg_pre (x y : List ByteArray) (i : Nat) : ∀ d, ∃ r, chg x y (i + d) = chg x y i ++ r
  | 0 => ⟨[], by simp⟩
  | d + 1 => by
    obtain ⟨r, h⟩ := chg_pre x y i d
    rw [← Nat.add_assoc, chg]
    split
    · exact ⟨r ++ [⟨((i + d : Nat) : Int), at_ y (i + d)⟩], by rw [h, List.append_assoc]⟩
    · exact ⟨r, h⟩
theorem chg_at {x y : List ByteArray} {i n : Nat} (hi : i < n) (ho : unlike x y i = true) : (chg x y i).length < (chg x y n).length ∧ (chg x y n)[(chg x y i).length]? = some ⟨(i : Int), at_ y i⟩ := by
  obtain ⟨r, h⟩ := chg_pre x y (i + 1) (n - (i + 1))
  rw [show i + 1 + (n - (i + 1)) = n by omega, chg, if_pos ho] at h
  rw [h]
  simp only [List.length_append, List.length_singleton]
  exact ⟨by omega, by simp⟩
theorem wrap_succ {i n : Nat} (h : i < n) (hn : n ≤ 5864062014805) : wrap64 ((i : Int) + 1) = ((i + 1 : Nat) : Int) := by
  rw [← i64_w, IntWalk.i64_in _ (by omega)]
  omega
theorem rdOf_at (x : List ByteArray) (i : Nat) : rdOf ByteArray.empty x (i : Int) = at_ x i := by simp [rdOf, at_]
theorem writes_l0 (x y : List ByteArray) (hy : y.length ≤ 5864062014805) : ∀ (d i k : Nat), i + d = y.length → d < k → delta_writes.l0 k x (chg x y i) y (y.length : Int) (i : Int) = some (chg x y y.length)
  | 0, i, k, h, hk => by
    obtain ⟨k, rfl⟩ : ∃ m, k = m + 1 := ⟨k - 1, by omega⟩
    rw [delta_writes.l0, if_neg (by omega)]
    rw [show i = y.length by omega]
  | d + 1, i, k, h, hk => by
    obtain ⟨k, rfl⟩ : ∃ m, k = m + 1 := ⟨k - 1, by omega⟩
    have ih := writes_l0 x y hy d (i + 1) k (by omega) (by omega)
    have hl := chg_len x y i
    rw [delta_writes.l0, if_pos (by omega), if_pos (by omega), if_pos (by omega), wrap_succ (show i < y.length by omega) hy, rdOf_at, rdOf_at]
    by_cases c : x.length ≤ i
    · rw [if_pos (by omega), if_pos (by omega)]
      rw [chg, if_pos (by simp [unlike, c])] at ih
      exact ih
    · rw [if_neg (by omega), if_pos (by omega)]
      by_cases e : (at_ x i).toList = (at_ y i).toList
      · rw [if_pos e]
        rw [chg, if_neg (by simp [unlike, c, e])] at ih
        exact ih
      · rw [if_neg e, if_pos (by omega)]
        rw [chg, if_pos (by simp [unlike, e])] at ih
        exact ih
theorem writes_f (x y : List ByteArray) (hy : y.length ≤ 5864062014805) {k : Nat} (hk : y.length < k) : delta_writes.f k x y = some (chg x y y.length) := by
  unfold delta_writes.f
  exact writes_l0 x y hy y.length 0 k (by omega) hk
theorem size_some (l : List ByteArray) (hl : l.length ≤ 5864062014805) : ∀ (d i k : Nat) (n : Int), i + d = l.length → d < k → ∃ r, hibernaclelaw35_size.l0 k n l (l.length : Int) (i : Int) = some r
  | 0, i, k, n, h, hk => by
    obtain ⟨k, rfl⟩ : ∃ m, k = m + 1 := ⟨k - 1, by omega⟩
    rw [hibernaclelaw35_size.l0, if_neg (by omega)]
    exact ⟨_, rfl⟩
  | d + 1, i, k, n, h, hk => by
    obtain ⟨k, rfl⟩ : ∃ m, k = m + 1 := ⟨k - 1, by omega⟩
    rw [hibernaclelaw35_size.l0, if_pos (by omega), if_pos (by omega), if_pos (by omega), wrap_succ (show i < l.length by omega) hl]
    exact size_some l hl d (i + 1) k _ (by omega) (by omega)
theorem great_some (m : Nat) (l : List S24) (hl : l.length ≤ 5864062014805) (hm : ∀ x ∈ l, x.f0.length ≤ m ∧ x.f1.length ≤ m) (hmm : m ≤ 5864062014805) : ∀ (d i k : Nat) (n : Int), i + d = l.length → d + m + 1 < k → ∃ r, hibernaclelaw35_great.l0 k n l (l.length : Int) (i : Int) = some r
  | 0, i, k, n, h, hk => by
    obtain ⟨k, rfl⟩ : ∃ m, k = m + 1 := ⟨k - 1, by omega⟩
    rw [hibernaclelaw35_great.l0, if_neg (by omega)]
    exact ⟨_, rfl⟩
  | d + 1, i, k, n, h, hk => by
    obtain ⟨k, rfl⟩ : ∃ m, k = m + 1 := ⟨k - 1, by omega⟩
    rw [hibernaclelaw35_great.l0, if_pos (by omega), if_pos (by omega), if_pos (by omega), wrap_succ (show i < l.length by omega) hl]
    have hx := hm (rd_T24 l (i : Int)) (by
      have : rd_T24 l (i : Int) = l[i]'(by omega) := by simp [rd_T24, List.getD_eq_getElem?_getD, List.getElem?_eq_getElem (show i < l.length by omega)]
      rw [this]
      exact List.getElem_mem _)
    obtain ⟨r1, h1⟩ := size_some (rd_T24 l (i : Int)).f0 (by omega) (rd_T24 l (i : Int)).f0.length 0 k 0 (by omega) (by omega)
    obtain ⟨r2, h2⟩ := size_some (rd_T24 l (i : Int)).f1 (by omega) (rd_T24 l (i : Int)).f1.length 0 k 0 (by omega) (by omega)
    have g1 : hibernaclelaw35_size.f k (rd_T24 l (i : Int)).f0 = some r1 := h1
    have g2 : hibernaclelaw35_size.f k (rd_T24 l (i : Int)).f1 = some r2 := h2
    rw [g1, Option.bind_some, g2, Option.bind_some]
    exact great_some m l hl hm hmm d (i + 1) k _ (by omega) (by omega)
theorem great_f (m : Nat) (l : List S24) (hl : l.length ≤ 5864062014805) (hm : ∀ x ∈ l, x.f0.length ≤ m ∧ x.f1.length ≤ m) (hmm : m ≤ 5864062014805) : ∃ k r, hibernaclelaw35_great.f k l = some r := by
  obtain ⟨r, h⟩ := great_some m l hl hm hmm l.length 0 (l.length + m + 2) 0 (by omega) (by omega)
  exact ⟨_, r, h⟩
end Go.Proofs.Ytoljjgabgdifbaa.H


namespace Go.Proofs.Ytoljjgabgdifbaa.H
open Go.RowKit Go.Proofs.YtoljjgabgdifbaaW.PrintWords Go.Proofs.YtoljjgabgdifbaaW.PrintLast Go.Proofs.YtoljjgabgdifbaaW.PrintMore
set_option linter.unusedVariables false
set_option linter.unusedSimpArgs false

set_option maxRecDepth 100000 in
set_option maxHeartbeats 4000000 in
theorem grow_nil (n : Nat) (w : World) (hn : n ≤ 5000000000000) :
    Calls Try.prog 55 #[.slice none 0 0, .int .i64 (n : Int)] w fun e w' => ∃ v, e = .returned v ∧ Kd.R k36 36 w' w.heap.size (fun _ => True) v [] ∧ Below w.heap.size w w' := by
  have h1 := eq_false (show ¬ (n : Int) < 0 by omega)
  have h2 : IntKind.i64.wrap (n : Int) = (n : Int) := IntWalk.i64_in _ (by omega)
  by_cases c : 0 < n
  · have h3 := eq_true (show (0 : Int) < (n : Int) by omega)
    have h4 := eq_true (show 0 < n by omega)
    go_enter Try.func55, Try.ntmps55
    go_wp2_with (((with_reducible refine gate_builtin (b := .append) (xs := #[.tmp 20, .tmp 21]) rfl ?_); at_builtin; refine Kd.R_append_zeros k36 (w0 := w) w.heap.size rfl (.tmp 20) (.tmp 21) 30 3 36 (.agg #[(.int .i64 0), (.string ⟨#[]⟩)]) 24 rfl Try.underlying30 Try.underlying3 info36 rfl (by decide) (by omega) (.slice none 0 0) [] (⟨0, ⟨#[]⟩⟩ : S36) (n : Int) (fun _ => True) rfl rfl ?aP (fun _ _ => trivial) ?aO (by omega) ?aB ?aS ?aL ?_; (case aP => exact k36_mkM _ _ _ (⟨0, ⟨#[]⟩⟩ : S36)); (case aO => exact Kd.R_nil _ _ _ _ _); (case aB => exact Below.refl _ _); (case aS => exact Nat.le_refl _); (case aL => simp; omega); intro v1 w1 ho hb hg hat; obtain ⟨A, cp, rfl⟩ := Kd.R_slice ho; have HO := Aside0.mk (Kd.R_take ho (Nat.zero_le _)); have HB := Aside0.mk hb; clear ho hb hg hat))
    go_ret
    exact ⟨_, rfl, HO.out, HB.out⟩
  · obtain rfl : n = 0 := by omega
    go_enter Try.func55, Try.ntmps55
    go_wp2_with fail
    go_ret
    exact ⟨_, rfl, Kd.R_nil _ _ _ _ _, Below.refl _ _⟩
set_option maxRecDepth 100000 in
set_option maxHeartbeats 8000000 in
theorem concat_calls (A : Option Addr) (c : Nat) (l : List S36) (B : Option Addr) (d : Nat) (m : List S36) (bk : Nat) (w : World) (hA : Kd.C k36 w A l.length l) (hc : l.length ≤ c) (hB : Kd.C k36 w B m.length m) (hd : m.length ≤ d)
    (hq : Blk w bk 30 #[.slice A l.length c, .slice B m.length d]) (hl : l.length ≤ 2000000) (hm : m.length ≤ 2000000) :
    Calls Try.prog 44 #[.slice (some ⟨bk, 0, none⟩) 2 2] w fun e w' => ∃ v, e = .returned v ∧ Kd.R k36 36 w' w.heap.size (fun _ => True) v (l ++ m) ∧ Below w.heap.size w w' := by
  have q0 : w.cell? ⟨bk, 0, none⟩ = some (.slice A l.length c) := hq.cell 0
  have q1 : w.cell? ⟨bk, 1, none⟩ = some (.slice B m.length d) := hq.cell 1
  have HQ := Aside0.mk hq
  have e0 : IntKind.i64.wrap (l.length : Int) = (l.length : Int) := IntWalk.i64_in _ (by omega)
  have e1 : IntKind.i64.wrap ((l.length : Int) + (m.length : Int)) = (l.length : Int) + (m.length : Int) := IntWalk.i64_in _ (by omega)
  have f0 := eq_false (show ¬ (l.length : Int) < 0 by omega)
  have f1 := eq_false (show ¬ (l.length : Int) + (m.length : Int) < 0 by omega)
  have GN := Aside0.mk (grow_nil (l.length + m.length) w (by omega))
  rw [show (((l.length + m.length : Nat)) : Int) = (l.length : Int) + (m.length : Int) by omega] at GN
  go_enter Try.func44, Try.ntmps44
  have HA := Aside0.mk hA
  have HB := Aside0.mk hB
  clear hA hB hq
  go_wp2_with fail
  go_loopg [3, 11] 2 (fun gk v3 v11 wl => ∃ i : Nat, v11 = .int .i64 i ∧ Aside0 (i + gk = 2) ∧ (i = 0 ∧ v3 = .int .i64 0 ∨ i = 1 ∧ v3 = .int .i64 l.length ∨ i = 2 ∧ v3 = .int .i64 ((l.length : Int) + (m.length : Int))) ∧ w = wl)
  case atStart => exact ⟨0, rfl, ⟨rfl⟩, Or.inl ⟨rfl, rfl⟩, rfl⟩
  case round =>
    obtain ⟨i, rfl, hi, hv, hw⟩ := hrel
    subst hw
    rcases hv with ⟨rfl, rfl⟩ | ⟨rfl, rfl⟩ | ⟨rfl, rfl⟩
    · go_wp2_with fail
      go_roundg 1
      case measure => have := hi.out; omega
      case rel => exact ⟨1, rfl, ⟨rfl⟩, Or.inr (Or.inl ⟨rfl, rfl⟩), rfl⟩
    · go_wp2_with fail
      go_roundg 0
      case measure => have := hi.out; omega
      case rel => exact ⟨2, rfl, ⟨rfl⟩, Or.inr (Or.inr ⟨rfl, rfl⟩), rfl⟩
    · go_wp2_with fail
      refine GN.out.mono ?_
      rintro e w1 ⟨v, rfl, ho, hb⟩
      have HO := Aside0.mk ho
      have HW := Aside0.mk hb
      clear ho hb q0 q1
      go_wp2_with fail
      go_loopg [6, 27] 2 (fun gk v6 v27 wl => ∃ i : Nat, v27 = .int .i64 i ∧ Aside0 (i + gk = 2) ∧ Aside0 (i = 0 ∧ Kd.R k36 36 wl w.heap.size (fun _ => True) v6 [] ∨ i = 1 ∧ Kd.R k36 36 wl w.heap.size (fun _ => True) v6 l ∨ i = 2 ∧ Kd.R k36 36 wl w.heap.size (fun _ => True) v6 (l ++ m)) ∧ Aside0 (Below w.heap.size w wl))
      case atStart => exact ⟨0, rfl, ⟨rfl⟩, ⟨Or.inl ⟨rfl, HO.out⟩⟩, HW⟩
      case round =>
        clear HO HW
        obtain ⟨i, rfl, hi, hv, HW⟩ := hrel
        have q0 : wr.cell? ⟨bk, 0, none⟩ = some (.slice A l.length c) := (HW.out.cell (p := ⟨bk, 0, none⟩) HQ.out.lt).trans (HQ.out.cell 0)
        have q1 : wr.cell? ⟨bk, 1, none⟩ = some (.slice B m.length d) := (HW.out.cell (p := ⟨bk, 1, none⟩) HQ.out.lt).trans (HQ.out.cell 1)
        rcases hv.out with ⟨rfl, ho⟩ | ⟨rfl, ho⟩ | ⟨rfl, ho⟩
        · have HO := Aside0.mk ho
          clear ho hv
          go_wp2_with ((with_reducible refine gate_builtin (b := .append) (xs := #[.tmp 31, .tmp 32]) rfl ?_); at_builtin; refine Kd.R_append_rows k36 (Rr := k36.K wr) (w0 := w) w.heap.size rfl (.tmp 31) (.tmp 32) 30 36 (.agg #[(.int .i64 0), (.string ⟨#[]⟩)]) 24 rfl Try.underlying30 info36 rfl (by decide) (by omega) _ [] l A l.length c (fun _ => True) (fun _ => False) rfl rfl HO.out (Kd.C_below HA.out HW.out) (fun x cs h => by rw [k36_open h]; exact k36_mkM _ _ _ x) (fun _ h => h.elim) (fun _ _ => trivial) HW.out HW.out.size ?aL ?_; (case aL => first | omega | (simp; omega)); intro v1 w2 ho hb hg hat; have HO2 := Aside0.mk ho; have HW2 := Aside0.mk hb; clear ho hb hg hat)
          go_roundg 1
          case measure => have := hi.out; omega
          case rel => exact ⟨1, rfl, ⟨rfl⟩, ⟨Or.inr (Or.inl ⟨rfl, HO2.out⟩)⟩, HW2⟩
        · have HO := Aside0.mk ho
          clear ho hv
          go_wp2_with ((with_reducible refine gate_builtin (b := .append) (xs := #[.tmp 31, .tmp 32]) rfl ?_); at_builtin; refine Kd.R_append_rows k36 (Rr := k36.K wr) (w0 := w) w.heap.size rfl (.tmp 31) (.tmp 32) 30 36 (.agg #[(.int .i64 0), (.string ⟨#[]⟩)]) 24 rfl Try.underlying30 info36 rfl (by decide) (by omega) _ l m B m.length d (fun _ => True) (fun _ => False) rfl rfl HO.out (Kd.C_below HB.out HW.out) (fun x cs h => by rw [k36_open h]; exact k36_mkM _ _ _ x) (fun _ h => h.elim) (fun _ _ => trivial) HW.out HW.out.size ?aL ?_; (case aL => first | omega | (simp; omega)); intro v1 w2 ho hb hg hat; have HO2 := Aside0.mk ho; have HW2 := Aside0.mk hb; clear ho hb hg hat)
          go_roundg 0
          case measure => have := hi.out; omega
          case rel => exact ⟨2, rfl, ⟨rfl⟩, ⟨Or.inr (Or.inr ⟨rfl, HO2.out⟩)⟩, HW2⟩
        · have HO := Aside0.mk ho
          clear ho hv
          go_wp2_with fail
          go_ret
          exact ⟨_, rfl, HO.out, HW.out⟩
end Go.Proofs.Ytoljjgabgdifbaa.H

