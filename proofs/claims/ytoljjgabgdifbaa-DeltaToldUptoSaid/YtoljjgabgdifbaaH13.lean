/- Layer 35's statements: the chapter's examples. -/
import Derived.Test.YtoljjgabgdifbaaH12
namespace Go.Proofs.Ytoljjgabgdifbaa.H
open Go.RowKit Go.Proofs.YtoljjgabgdifbaaW.PrintWords Go.Proofs.YtoljjgabgdifbaaW.PrintLast Go.Proofs.YtoljjgabgdifbaaW.PrintMore
set_option linter.unusedVariables false
set_option linter.unusedSimpArgs false

def xB : ByteArray := ⟨#[120]⟩
def rB : ByteArray := ⟨#[114]⟩
def fA : S24 := ⟨[xB], [], rB⟩
def fZ : S24 := ⟨[], [], ⟨#[]⟩⟩
/-- A delta with two digests, whatever they are. -/
def DL (W : World) (base : Nat) (v : Value) (r1 r2 : List S36) (s : ByteArray) : Prop :=
  ∃ L M, L.length = 32 ∧ M.length = 32 ∧ DeltaAt W base v L r1 r2 s M
theorem DL.below {W W' : World} {base : Nat} {v : Value} {r1 r2 : List S36} {s : ByteArray} (h : DL W base v r1 r2 s) (hb : Below W.heap.size W W') : DL W' base v r1 r2 s := by
  obtain ⟨L, M, hL, hM, h⟩ := h
  exact ⟨L, M, hL, hM, h.below hb⟩
theorem DL.lower {W : World} {base b : Nat} {v : Value} {r1 r2 : List S36} {s : ByteArray} (h : DL W base v r1 r2 s) (hb : b ≤ base) : DL W b v r1 r2 s := by
  obtain ⟨L, M, hL, hM, A1, c1, A2, c2, e, h1, h2⟩ := h
  exact ⟨L, M, hL, hM, A1, c1, A2, c2, e, Kd.R_lower h1 hb, Kd.R_lower h2 hb⟩
theorem ofA_calls (h : Nat) (w : World) (hc : Kd.C Kd.string w (some ⟨h, 0, none⟩) 1 [xB]) :
    Calls Try.prog 11 #[.agg #[.slice (some ⟨h, 0, none⟩) 1 1, .slice none 0 0, .string rB], .agg #[.slice (some ⟨h, 0, none⟩) 1 1, .slice none 0 0, .string rB]] w fun e w' => ∃ v, e = .returned v ∧ DL w' w.heap.size v [] [] rB ∧ Below w.heap.size w w' := by
  refine (of_calls 3 (some ⟨h, 0, none⟩) 1 none 0 fA (some ⟨h, 0, none⟩) 1 none 0 fA [] [] w hc (Nat.le_refl _) (Kd.C_nil _ _) (Nat.le_refl _) hc (Nat.le_refl _) (Kd.C_nil _ _) (Nat.le_refl _) (by decide +kernel) (by decide +kernel) (by unfold delta_writes.f; simp [delta_writes.l0, aOf, fA, fZ, rdOf, wrap64]) (by unfold delta_writes.f; simp [delta_writes.l0, aOf, fA, fZ, rdOf, wrap64])).mono ?_
  rintro e w' ⟨A1, c1, A2, c2, rfl, h1, h2, hb⟩
  exact ⟨_, rfl, ⟨_, _, imgSum_len _ _ _, imgSum_len _ _ _, A1, c1, A2, c2, rfl, h1, h2⟩, hb⟩
theorem ofB_calls (h : Nat) (w : World) (hc : Kd.C Kd.string w (some ⟨h, 0, none⟩) 1 [xB]) :
    Calls Try.prog 11 #[.agg #[.slice none 0 0, .slice none 0 0, .string ⟨#[]⟩], .agg #[.slice (some ⟨h, 0, none⟩) 1 1, .slice none 0 0, .string rB]] w fun e w' => ∃ v, e = .returned v ∧ DL w' w.heap.size v [⟨0, xB⟩] [] rB ∧ Below w.heap.size w w' := by
  refine (of_calls 3 none 0 none 0 fZ (some ⟨h, 0, none⟩) 1 none 0 fA [⟨0, xB⟩] [] w (Kd.C_nil _ _) (Nat.le_refl _) (Kd.C_nil _ _) (Nat.le_refl _) hc (Nat.le_refl _) (Kd.C_nil _ _) (Nat.le_refl _) (by decide +kernel) (by decide +kernel) (by unfold delta_writes.f; simp [delta_writes.l0, aOf, fA, fZ, rdOf, wrap64]) (by unfold delta_writes.f; simp [delta_writes.l0, aOf, fA, fZ, rdOf, wrap64])).mono ?_
  rintro e w' ⟨A1, c1, A2, c2, rfl, h1, h2, hb⟩
  exact ⟨_, rfl, ⟨_, _, imgSum_len _ _ _, imgSum_len _ _ _, A1, c1, A2, c2, rfl, h1, h2⟩, hb⟩
theorem dArr_f1 {L M : List Int} {v1 v2 : Value} {s : ByteArray} (hL : L.length = 32) : (dArr L v1 v2 s M)[32]? = some v1 := by
  simp [dArr, nums, List.getElem?_append, hL]
theorem dArr_f2 {L M : List Int} {v1 v2 : Value} {s : ByteArray} (hL : L.length = 32) : (dArr L v1 v2 s M)[33]? = some v2 := by
  simp [dArr, nums, List.getElem?_append, hL]
/-- How far the examples' deltas are told, in whatever order. -/
structure FX (w0 : World) (h : Nat) (W : World) (g : Nat) (cs : Array Value) (v2 v5 : Option Value) (g6 g7 : Option Nat) : Prop where
  below : Below w0.heap.size w0 W
  low : w0.heap.size ≤ g
  box : Blk W g 24 cs
  c0 : Kd.C Kd.string W (some ⟨h, 0, none⟩) 1 [xB]
  d2 : ∀ v, v2 = some v → DL W w0.heap.size v [] [] rB
  d5 : ∀ v, v5 = some v → DL W w0.heap.size v [⟨0, xB⟩] [] rB
  a6 : ∀ k, g6 = some k → Blk W k 32 (dArr (outL [] 0) (.slice none 0 0) (.slice none 0 0) ⟨#[]⟩ (outL [] 0)) ∧ g < k
  a7 : ∀ k, g7 = some k → Blk W k 32 (dArr (outL [] 0) (.slice none 0 0) (.slice none 0 0) ⟨#[]⟩ (outL [] 0)) ∧ g < k
  ne : ∀ j k, g6 = some j → g7 = some k → j ≠ k
section
variable {w0 W W' : World} {h g : Nat} {cs : Array Value} {v2 v5 : Option Value} {g6 g7 : Option Nat}
theorem FX.on (X : FX w0 h W g cs v2 v5 g6 g7) (hb : Below W.heap.size W W') : FX w0 h W' g cs v2 v5 g6 g7 :=
  ⟨below_then X.below X.below.size hb, X.low, X.box.below hb X.box.lt, Kd.C_below X.c0 hb, fun v e => (X.d2 v e).below hb, fun v e => (X.d5 v e).below hb,
    fun k e => ⟨(X.a6 k e).1.below hb (X.a6 k e).1.lt, (X.a6 k e).2⟩, fun k e => ⟨(X.a7 k e).1.below hb (X.a7 k e).1.lt, (X.a7 k e).2⟩, X.ne⟩
theorem FX.set2 (X : FX w0 h W g cs v2 v5 g6 g7) {v : Value} (d : DL W w0.heap.size v [] [] rB) : FX w0 h W g cs (some v) v5 g6 g7 :=
  ⟨X.below, X.low, X.box, X.c0, fun u e => by injection e with e; subst e; exact d, X.d5, X.a6, X.a7, X.ne⟩
theorem FX.set5 (X : FX w0 h W g cs v2 v5 g6 g7) {v : Value} (d : DL W w0.heap.size v [⟨0, xB⟩] [] rB) : FX w0 h W g cs v2 (some v) g6 g7 :=
  ⟨X.below, X.low, X.box, X.c0, X.d2, fun u e => by injection e with e; subst e; exact d, X.a6, X.a7, X.ne⟩
theorem FX.alloc6 (X : FX w0 h W g cs v2 v5 none g7) : FX w0 h (W.alloc (.cells Try.zeroCells32 32)) g cs v2 v5 (some W.heap.size) g7 := by
  have Y := X.on (below_alloc (Below.refl _ _) (.cells Try.zeroCells32 32))
  refine ⟨Y.below, Y.low, Y.box, Y.c0, Y.d2, Y.d5, fun k e => ?_, Y.a7, fun j k e1 e2 => ?_⟩
  · injection e with e
    subst e
    rw [← z32]
    exact ⟨Blk.new _ _ _, X.box.lt⟩
  · injection e1 with e1
    subst e1
    have := (X.a7 k e2).1.lt
    omega
theorem FX.alloc7 (X : FX w0 h W g cs v2 v5 g6 none) : FX w0 h (W.alloc (.cells Try.zeroCells32 32)) g cs v2 v5 g6 (some W.heap.size) := by
  have Y := X.on (below_alloc (Below.refl _ _) (.cells Try.zeroCells32 32))
  refine ⟨Y.below, Y.low, Y.box, Y.c0, Y.d2, Y.d5, Y.a6, fun k e => ?_, fun j k e1 e2 => ?_⟩
  · injection e with e
    subst e
    rw [← z32]
    exact ⟨Blk.new _ _ _, X.box.lt⟩
  · injection e2 with e2
    subst e2
    have := (X.a6 j e1).1.lt
    omega
end

set_option maxRecDepth 100000 in
set_option maxHeartbeats 8000000 in
theorem fixed_calls (w : World) : Calls Try.prog 9 #[] w fun e w' => e = .returned (.bool true) ∧ Below w.heap.size w w' := by
  go_enter Try.func9, Try.ntmps9
  go_wp2_with fail
  have X : FX w w.heap.size ((w.alloc (.cells #[.string xB] 9)).alloc (.cells #[.slice (some ⟨w.heap.size, 0, none⟩) 1 1, .slice none 0 0, .string rB] 24)) (w.heap.size + 1) #[.slice (some ⟨w.heap.size, 0, none⟩) 1 1, .slice none 0 0, .string rB] none none none none := by
    have B := Blk.new (w.alloc (.cells #[.string xB] 9)) 24 #[.slice (some ⟨w.heap.size, 0, none⟩) 1 1, .slice none 0 0, .string rB]
    rw [sz] at B
    exact ⟨((Below.refl w.heap.size w).alloc (Nat.le_refl _) _).alloc (by rw [sz]; omega) _, by omega, B, Kd.C_alloc (strings_new w [xB] (by simp)) _, by simp, by simp, by simp, by simp, by simp⟩
  rw [show (w.alloc (.cells #[.string ⟨#[120]⟩] 9)).alloc (.cells #[.slice (some ⟨w.heap.size, 0, none⟩) 1 1, .slice none 0 0, .string ⟨#[114]⟩] 24) = (w.alloc (.cells #[.string xB] 9)).alloc (.cells #[.slice (some ⟨w.heap.size, 0, none⟩) 1 1, .slice none 0 0, .string rB] 24) from rfl]
  generalize (w.alloc (.cells #[.string xB] 9)).alloc (.cells #[.slice (some ⟨w.heap.size, 0, none⟩) 1 1, .slice none 0 0, .string rB] 24) = w1 at X ⊢
  generalize w.heap.size + 1 = g at X ⊢
  obtain ⟨h, eh⟩ : ∃ h, h = w.heap.size := ⟨_, rfl⟩
  rw [← eh]
  replace X : FX w h w1 g #[.slice (some ⟨h, 0, none⟩) 1 1, .slice none 0 0, .string rB] none none none none := by rw [eh]; exact X
  clear eh
  have X0 := Aside0.mk (X.on (below_drew (Below.refl _ w1)))
  clear X
  refine start_ (n := 10) (S := fun w' => Blk w' g 24 #[.slice (some ⟨h, 0, none⟩) 1 1, .slice none 0 0, .string rB]) (ds := [8, 9]) #[false, false, false, false, false, false, false, false, false, false] (by kernel_rfl) rfl rfl (X0.out.box) (fun hHeld => ?_)
  generalize w1.drew = wd at hHeld X0 ⊢
  refine pure_ (i := 3) (N := some 9) (v := ?_) (a' := ?_) #[false, false, false, true, false, false, false, false, false, false] rfl rfl (by kernel_rfl) (fun _ _ _ h => h) (Or.inl ⟨by rfl, ?_⟩) ?_ ?_
  rotate_left
  · intro w'
    go_simp
    with_reducible rfl
  rotate_left
  · simp only [Act.put, List.setIfInBounds_toArray, List.set_cons_zero, List.set_cons_succ, i64_w, i32_w]
    rfl
  refine take_ (i := 0) (N := some 6) (v := ?_) (a' := ?_) #[true, false, false, true, false, false, false, false, false, false] rfl rfl (by kernel_rfl) (fun _ _ _ h => h) (Or.inl ⟨by rfl, ?_⟩) hHeld ?_ ?_
  rotate_left
  · intro w' s0
    refine row_loads 24 (.tmp 1) ?_ g ?_ s0 Try.underlying24 ?_ ?_
    · rfl
    · rfl
    · rfl
    · kernel_rfl
  rotate_left
  · simp only [Act.put, List.setIfInBounds_toArray, List.set_cons_zero, List.set_cons_succ, i64_w, i32_w]
    rfl
  refine take_ (i := 1) (N := some 7) (v := ?_) (a' := ?_) #[true, true, false, true, false, false, false, false, false, false] rfl rfl (by kernel_rfl) (fun _ _ _ h => h) (Or.inl ⟨by rfl, ?_⟩) hHeld ?_ ?_
  rotate_left
  · intro w' s0
    refine row_loads 24 (.tmp 1) ?_ g ?_ s0 Try.underlying24 ?_ ?_
    · rfl
    · rfl
    · rfl
    · kernel_rfl
  rotate_left
  · simp only [Act.put, List.setIfInBounds_toArray, List.set_cons_zero, List.set_cons_succ, i64_w, i32_w]
    rfl
  refine take_ (i := 4) (N := some 10) (v := ?_) (a' := ?_) #[true, true, false, true, true, false, false, false, false, false] rfl rfl (by kernel_rfl) (fun _ _ _ h => h) (Or.inl ⟨by rfl, ?_⟩) hHeld ?_ ?_
  rotate_left
  · intro w' s0
    refine row_loads 24 (.tmp 1) ?_ g ?_ s0 Try.underlying24 ?_ ?_
    · rfl
    · rfl
    · rfl
    · kernel_rfl
  rotate_left
  · simp only [Act.put, List.setIfInBounds_toArray, List.set_cons_zero, List.set_cons_succ, i64_w, i32_w]
    rfl
  refine join_ (σ := Value × Value × Nat × Nat) 2 #[true, true, true, true, true, true, true, true, false, false] (fun s => [(8, s.1), (11, s.2.1), (2, .pointer (some ⟨s.2.2.1, 0, none⟩)), (3, .pointer (some ⟨s.2.2.2, 0, none⟩))]) (fun s w' => FX w h w' g #[.slice (some ⟨h, 0, none⟩) 1 1, .slice none 0 0, .string rB] (some s.1) (some s.2.1) (some s.2.2.1) (some s.2.2.2)) ?_ ?_
  rotate_left
  · intro hCont
    refine three_ (i := 2) (j := 6) (k := 7) (Ni := some 8) (Nj := some 2) (Nk := some 3) #[true, true, true, true, true, false, false, false, false, false] #[true, true, false, true, true, false, true, false, false, false] #[true, true, false, true, true, false, false, true, false, false] rfl rfl rfl rfl rfl rfl (by kernel_rfl) (by decide) (by decide) (by decide) (fun K hK => ?_) (fun K hK => ?_) (fun K hK => ?_)
    · skip
      refine goes_ Try.func11 (by kernel_rfl) rfl #[.agg #[.slice (some ⟨h, 0, none⟩) 1 1, .slice none 0 0, .string rB], .agg #[.slice (some ⟨h, 0, none⟩) 1 1, .slice none 0 0, .string rB]] (by rfl) rfl rfl (by simp only [List.map_toArray, List.map_cons, List.map_nil]; rfl) ?_
      with_reducible refine (ofA_calls h _ X0.out.c0).mono ?_
      rintro e w3 ⟨va, rfl, hd, hb⟩
      refine ⟨_, rfl, ?_⟩
      have X1 := Aside0.mk ((X0.out.on hb).set2 (hd.lower X0.out.below.size))
      clear hd hb
      refine hK.out _ _ (X1.out.box) (fun hHeld => ?_)
      clear hK K
      refine norm_ (a' := ?_) ?_ ?_
      rotate_left
      · show Act.put _ (some 8) _ = _
        simp only [Act.put, List.setIfInBounds_toArray, List.set_cons_zero, List.set_cons_succ, i64_w, i32_w]
        rfl
      refine three_ (i := 5) (j := 6) (k := 7) (Ni := some 11) (Nj := some 2) (Nk := some 3) #[true, true, true, true, true, true, false, false, false, false] #[true, true, true, true, true, false, true, false, false, false] #[true, true, true, true, true, false, false, true, false, false] rfl rfl rfl rfl rfl rfl (by kernel_rfl) (by decide) (by decide) (by decide) (fun K hK => ?_) (fun K hK => ?_) (fun K hK => ?_)
      · skip
        refine goes_ Try.func11 (by kernel_rfl) rfl #[.agg #[.slice none 0 0, .slice none 0 0, .string ⟨#[]⟩], .agg #[.slice (some ⟨h, 0, none⟩) 1 1, .slice none 0 0, .string rB]] (by rfl) rfl rfl (by simp only [List.map_toArray, List.map_cons, List.map_nil]; rfl) ?_
        with_reducible refine (ofB_calls h _ X1.out.c0).mono ?_
        rintro e w4 ⟨vb, rfl, hd, hb⟩
        refine ⟨_, rfl, ?_⟩
        have X2 := Aside0.mk ((X1.out.on hb).set5 (hd.lower X1.out.below.size))
        clear hd hb
        refine hK.out _ _ (X2.out.box) (fun hHeld => ?_)
        clear hK K
        refine norm_ (a' := ?_) ?_ ?_
        rotate_left
        · show Act.put _ (some 11) _ = _
          simp only [Act.put, List.setIfInBounds_toArray, List.set_cons_zero, List.set_cons_succ, i64_w, i32_w]
          rfl
        refine two_ (i := 6) (j := 7) (Ni := some 2) (Nj := some 3) #[true, true, true, true, true, true, true, false, false, false] #[true, true, true, true, true, true, false, true, false, false] rfl rfl rfl rfl (by kernel_rfl) (by decide) (by decide) (fun K hK => ?_) (fun K hK => ?_)
        · skip
          refine value_ (w1 := ?_) (v := ?_) (by rfl) rfl ?_ ?_
          rotate_left 2
          · go_simp
            constructor
            · rfl
            · rfl
          have X3 := Aside0.mk (X2.out.alloc6)
          generalize w4.alloc (.cells Try.zeroCells32 32) = w5 at X3 ⊢
          generalize w4.heap.size = k6 at X3 ⊢
          refine hK.out _ _ (X3.out.box) (fun hHeld => ?_)
          clear hK K
          refine norm_ (a' := ?_) ?_ ?_
          rotate_left
          · show Act.put _ (some 2) _ = _
            simp only [Act.put, List.setIfInBounds_toArray, List.set_cons_zero, List.set_cons_succ, i64_w, i32_w]
            rfl
          refine one_ (i := 7) (N := some 3) #[true, true, true, true, true, true, true, true, false, false] rfl rfl (by kernel_rfl) (by decide) (fun K hK => ?_)
          refine value_ (w1 := ?_) (v := ?_) (by rfl) rfl ?_ ?_
          rotate_left 2
          · go_simp
            constructor
            · rfl
            · rfl
          have X4 := Aside0.mk (X3.out.alloc7)
          generalize w5.alloc (.cells Try.zeroCells32 32) = w6 at X4 ⊢
          generalize w5.heap.size = k7 at X4 ⊢
          refine hK.out _ _ (X4.out.box) (fun hHeld => ?_)
          clear hK K
          refine norm_ (a' := ?_) ?_ ?_
          rotate_left
          · show Act.put _ (some 3) _ = _
            simp only [Act.put, List.setIfInBounds_toArray, List.set_cons_zero, List.set_cons_succ, i64_w, i32_w]
            rfl
          exact norm_ (by simp only [putAll, Act.put, List.setIfInBounds_toArray, List.set_cons_zero, List.set_cons_succ, sz]) (hCont ⟨va, vb, k6, k7⟩ _ X4.out)
        · skip
          refine value_ (w1 := ?_) (v := ?_) (by rfl) rfl ?_ ?_
          rotate_left 2
          · go_simp
            constructor
            · rfl
            · rfl
          have X3 := Aside0.mk (X2.out.alloc7)
          generalize w4.alloc (.cells Try.zeroCells32 32) = w5 at X3 ⊢
          generalize w4.heap.size = k7 at X3 ⊢
          refine hK.out _ _ (X3.out.box) (fun hHeld => ?_)
          clear hK K
          refine norm_ (a' := ?_) ?_ ?_
          rotate_left
          · show Act.put _ (some 3) _ = _
            simp only [Act.put, List.setIfInBounds_toArray, List.set_cons_zero, List.set_cons_succ, i64_w, i32_w]
            rfl
          refine one_ (i := 6) (N := some 2) #[true, true, true, true, true, true, true, true, false, false] rfl rfl (by kernel_rfl) (by decide) (fun K hK => ?_)
          refine value_ (w1 := ?_) (v := ?_) (by rfl) rfl ?_ ?_
          rotate_left 2
          · go_simp
            constructor
            · rfl
            · rfl
          have X4 := Aside0.mk (X3.out.alloc6)
          generalize w5.alloc (.cells Try.zeroCells32 32) = w6 at X4 ⊢
          generalize w5.heap.size = k6 at X4 ⊢
          refine hK.out _ _ (X4.out.box) (fun hHeld => ?_)
          clear hK K
          refine norm_ (a' := ?_) ?_ ?_
          rotate_left
          · show Act.put _ (some 2) _ = _
            simp only [Act.put, List.setIfInBounds_toArray, List.set_cons_zero, List.set_cons_succ, i64_w, i32_w]
            rfl
          exact norm_ (by simp only [putAll, Act.put, List.setIfInBounds_toArray, List.set_cons_zero, List.set_cons_succ, sz]) (hCont ⟨va, vb, k6, k7⟩ _ X4.out)
      · skip
        refine value_ (w1 := ?_) (v := ?_) (by rfl) rfl ?_ ?_
        rotate_left 2
        · go_simp
          constructor
          · rfl
          · rfl
        have X2 := Aside0.mk (X1.out.alloc6)
        generalize w3.alloc (.cells Try.zeroCells32 32) = w4 at X2 ⊢
        generalize w3.heap.size = k6 at X2 ⊢
        refine hK.out _ _ (X2.out.box) (fun hHeld => ?_)
        clear hK K
        refine norm_ (a' := ?_) ?_ ?_
        rotate_left
        · show Act.put _ (some 2) _ = _
          simp only [Act.put, List.setIfInBounds_toArray, List.set_cons_zero, List.set_cons_succ, i64_w, i32_w]
          rfl
        refine two_ (i := 5) (j := 7) (Ni := some 11) (Nj := some 3) #[true, true, true, true, true, true, true, false, false, false] #[true, true, true, true, true, false, true, true, false, false] rfl rfl rfl rfl (by kernel_rfl) (by decide) (by decide) (fun K hK => ?_) (fun K hK => ?_)
        · skip
          refine goes_ Try.func11 (by kernel_rfl) rfl #[.agg #[.slice none 0 0, .slice none 0 0, .string ⟨#[]⟩], .agg #[.slice (some ⟨h, 0, none⟩) 1 1, .slice none 0 0, .string rB]] (by rfl) rfl rfl (by simp only [List.map_toArray, List.map_cons, List.map_nil]; rfl) ?_
          with_reducible refine (ofB_calls h _ X2.out.c0).mono ?_
          rintro e w5 ⟨vb, rfl, hd, hb⟩
          refine ⟨_, rfl, ?_⟩
          have X3 := Aside0.mk ((X2.out.on hb).set5 (hd.lower X2.out.below.size))
          clear hd hb
          refine hK.out _ _ (X3.out.box) (fun hHeld => ?_)
          clear hK K
          refine norm_ (a' := ?_) ?_ ?_
          rotate_left
          · show Act.put _ (some 11) _ = _
            simp only [Act.put, List.setIfInBounds_toArray, List.set_cons_zero, List.set_cons_succ, i64_w, i32_w]
            rfl
          refine one_ (i := 7) (N := some 3) #[true, true, true, true, true, true, true, true, false, false] rfl rfl (by kernel_rfl) (by decide) (fun K hK => ?_)
          refine value_ (w1 := ?_) (v := ?_) (by rfl) rfl ?_ ?_
          rotate_left 2
          · go_simp
            constructor
            · rfl
            · rfl
          have X4 := Aside0.mk (X3.out.alloc7)
          generalize w5.alloc (.cells Try.zeroCells32 32) = w6 at X4 ⊢
          generalize w5.heap.size = k7 at X4 ⊢
          refine hK.out _ _ (X4.out.box) (fun hHeld => ?_)
          clear hK K
          refine norm_ (a' := ?_) ?_ ?_
          rotate_left
          · show Act.put _ (some 3) _ = _
            simp only [Act.put, List.setIfInBounds_toArray, List.set_cons_zero, List.set_cons_succ, i64_w, i32_w]
            rfl
          exact norm_ (by simp only [putAll, Act.put, List.setIfInBounds_toArray, List.set_cons_zero, List.set_cons_succ, sz]) (hCont ⟨va, vb, k6, k7⟩ _ X4.out)
        · skip
          refine value_ (w1 := ?_) (v := ?_) (by rfl) rfl ?_ ?_
          rotate_left 2
          · go_simp
            constructor
            · rfl
            · rfl
          have X3 := Aside0.mk (X2.out.alloc7)
          generalize w4.alloc (.cells Try.zeroCells32 32) = w5 at X3 ⊢
          generalize w4.heap.size = k7 at X3 ⊢
          refine hK.out _ _ (X3.out.box) (fun hHeld => ?_)
          clear hK K
          refine norm_ (a' := ?_) ?_ ?_
          rotate_left
          · show Act.put _ (some 3) _ = _
            simp only [Act.put, List.setIfInBounds_toArray, List.set_cons_zero, List.set_cons_succ, i64_w, i32_w]
            rfl
          refine one_ (i := 5) (N := some 11) #[true, true, true, true, true, true, true, true, false, false] rfl rfl (by kernel_rfl) (by decide) (fun K hK => ?_)
          refine goes_ Try.func11 (by kernel_rfl) rfl #[.agg #[.slice none 0 0, .slice none 0 0, .string ⟨#[]⟩], .agg #[.slice (some ⟨h, 0, none⟩) 1 1, .slice none 0 0, .string rB]] (by rfl) rfl rfl (by simp only [List.map_toArray, List.map_cons, List.map_nil]; rfl) ?_
          with_reducible refine (ofB_calls h _ X3.out.c0).mono ?_
          rintro e w6 ⟨vb, rfl, hd, hb⟩
          refine ⟨_, rfl, ?_⟩
          have X4 := Aside0.mk ((X3.out.on hb).set5 (hd.lower X3.out.below.size))
          clear hd hb
          refine hK.out _ _ (X4.out.box) (fun hHeld => ?_)
          clear hK K
          refine norm_ (a' := ?_) ?_ ?_
          rotate_left
          · show Act.put _ (some 11) _ = _
            simp only [Act.put, List.setIfInBounds_toArray, List.set_cons_zero, List.set_cons_succ, i64_w, i32_w]
            rfl
          exact norm_ (by simp only [putAll, Act.put, List.setIfInBounds_toArray, List.set_cons_zero, List.set_cons_succ, sz]) (hCont ⟨va, vb, k6, k7⟩ _ X4.out)
      · skip
        refine value_ (w1 := ?_) (v := ?_) (by rfl) rfl ?_ ?_
        rotate_left 2
        · go_simp
          constructor
          · rfl
          · rfl
        have X2 := Aside0.mk (X1.out.alloc7)
        generalize w3.alloc (.cells Try.zeroCells32 32) = w4 at X2 ⊢
        generalize w3.heap.size = k7 at X2 ⊢
        refine hK.out _ _ (X2.out.box) (fun hHeld => ?_)
        clear hK K
        refine norm_ (a' := ?_) ?_ ?_
        rotate_left
        · show Act.put _ (some 3) _ = _
          simp only [Act.put, List.setIfInBounds_toArray, List.set_cons_zero, List.set_cons_succ, i64_w, i32_w]
          rfl
        refine two_ (i := 5) (j := 6) (Ni := some 11) (Nj := some 2) #[true, true, true, true, true, true, false, true, false, false] #[true, true, true, true, true, false, true, true, false, false] rfl rfl rfl rfl (by kernel_rfl) (by decide) (by decide) (fun K hK => ?_) (fun K hK => ?_)
        · skip
          refine goes_ Try.func11 (by kernel_rfl) rfl #[.agg #[.slice none 0 0, .slice none 0 0, .string ⟨#[]⟩], .agg #[.slice (some ⟨h, 0, none⟩) 1 1, .slice none 0 0, .string rB]] (by rfl) rfl rfl (by simp only [List.map_toArray, List.map_cons, List.map_nil]; rfl) ?_
          with_reducible refine (ofB_calls h _ X2.out.c0).mono ?_
          rintro e w5 ⟨vb, rfl, hd, hb⟩
          refine ⟨_, rfl, ?_⟩
          have X3 := Aside0.mk ((X2.out.on hb).set5 (hd.lower X2.out.below.size))
          clear hd hb
          refine hK.out _ _ (X3.out.box) (fun hHeld => ?_)
          clear hK K
          refine norm_ (a' := ?_) ?_ ?_
          rotate_left
          · show Act.put _ (some 11) _ = _
            simp only [Act.put, List.setIfInBounds_toArray, List.set_cons_zero, List.set_cons_succ, i64_w, i32_w]
            rfl
          refine one_ (i := 6) (N := some 2) #[true, true, true, true, true, true, true, true, false, false] rfl rfl (by kernel_rfl) (by decide) (fun K hK => ?_)
          refine value_ (w1 := ?_) (v := ?_) (by rfl) rfl ?_ ?_
          rotate_left 2
          · go_simp
            constructor
            · rfl
            · rfl
          have X4 := Aside0.mk (X3.out.alloc6)
          generalize w5.alloc (.cells Try.zeroCells32 32) = w6 at X4 ⊢
          generalize w5.heap.size = k6 at X4 ⊢
          refine hK.out _ _ (X4.out.box) (fun hHeld => ?_)
          clear hK K
          refine norm_ (a' := ?_) ?_ ?_
          rotate_left
          · show Act.put _ (some 2) _ = _
            simp only [Act.put, List.setIfInBounds_toArray, List.set_cons_zero, List.set_cons_succ, i64_w, i32_w]
            rfl
          exact norm_ (by simp only [putAll, Act.put, List.setIfInBounds_toArray, List.set_cons_zero, List.set_cons_succ, sz]) (hCont ⟨va, vb, k6, k7⟩ _ X4.out)
        · skip
          refine value_ (w1 := ?_) (v := ?_) (by rfl) rfl ?_ ?_
          rotate_left 2
          · go_simp
            constructor
            · rfl
            · rfl
          have X3 := Aside0.mk (X2.out.alloc6)
          generalize w4.alloc (.cells Try.zeroCells32 32) = w5 at X3 ⊢
          generalize w4.heap.size = k6 at X3 ⊢
          refine hK.out _ _ (X3.out.box) (fun hHeld => ?_)
          clear hK K
          refine norm_ (a' := ?_) ?_ ?_
          rotate_left
          · show Act.put _ (some 2) _ = _
            simp only [Act.put, List.setIfInBounds_toArray, List.set_cons_zero, List.set_cons_succ, i64_w, i32_w]
            rfl
          refine one_ (i := 5) (N := some 11) #[true, true, true, true, true, true, true, true, false, false] rfl rfl (by kernel_rfl) (by decide) (fun K hK => ?_)
          refine goes_ Try.func11 (by kernel_rfl) rfl #[.agg #[.slice none 0 0, .slice none 0 0, .string ⟨#[]⟩], .agg #[.slice (some ⟨h, 0, none⟩) 1 1, .slice none 0 0, .string rB]] (by rfl) rfl rfl (by simp only [List.map_toArray, List.map_cons, List.map_nil]; rfl) ?_
          with_reducible refine (ofB_calls h _ X3.out.c0).mono ?_
          rintro e w6 ⟨vb, rfl, hd, hb⟩
          refine ⟨_, rfl, ?_⟩
          have X4 := Aside0.mk ((X3.out.on hb).set5 (hd.lower X3.out.below.size))
          clear hd hb
          refine hK.out _ _ (X4.out.box) (fun hHeld => ?_)
          clear hK K
          refine norm_ (a' := ?_) ?_ ?_
          rotate_left
          · show Act.put _ (some 11) _ = _
            simp only [Act.put, List.setIfInBounds_toArray, List.set_cons_zero, List.set_cons_succ, i64_w, i32_w]
            rfl
          exact norm_ (by simp only [putAll, Act.put, List.setIfInBounds_toArray, List.set_cons_zero, List.set_cons_succ, sz]) (hCont ⟨va, vb, k6, k7⟩ _ X4.out)
    · skip
      refine value_ (w1 := ?_) (v := ?_) (by rfl) rfl ?_ ?_
      rotate_left 2
      · go_simp
        constructor
        · rfl
        · rfl
      have X1 := Aside0.mk (X0.out.alloc6)
      generalize wd.alloc (.cells Try.zeroCells32 32) = w3 at X1 ⊢
      generalize wd.heap.size = k6 at X1 ⊢
      refine hK.out _ _ (X1.out.box) (fun hHeld => ?_)
      clear hK K
      refine norm_ (a' := ?_) ?_ ?_
      rotate_left
      · show Act.put _ (some 2) _ = _
        simp only [Act.put, List.setIfInBounds_toArray, List.set_cons_zero, List.set_cons_succ, i64_w, i32_w]
        rfl
      refine two_ (i := 2) (j := 7) (Ni := some 8) (Nj := some 3) #[true, true, true, true, true, false, true, false, false, false] #[true, true, false, true, true, false, true, true, false, false] rfl rfl rfl rfl (by kernel_rfl) (by decide) (by decide) (fun K hK => ?_) (fun K hK => ?_)
      · skip
        refine goes_ Try.func11 (by kernel_rfl) rfl #[.agg #[.slice (some ⟨h, 0, none⟩) 1 1, .slice none 0 0, .string rB], .agg #[.slice (some ⟨h, 0, none⟩) 1 1, .slice none 0 0, .string rB]] (by rfl) rfl rfl (by simp only [List.map_toArray, List.map_cons, List.map_nil]; rfl) ?_
        with_reducible refine (ofA_calls h _ X1.out.c0).mono ?_
        rintro e w4 ⟨va, rfl, hd, hb⟩
        refine ⟨_, rfl, ?_⟩
        have X2 := Aside0.mk ((X1.out.on hb).set2 (hd.lower X1.out.below.size))
        clear hd hb
        refine hK.out _ _ (X2.out.box) (fun hHeld => ?_)
        clear hK K
        refine norm_ (a' := ?_) ?_ ?_
        rotate_left
        · show Act.put _ (some 8) _ = _
          simp only [Act.put, List.setIfInBounds_toArray, List.set_cons_zero, List.set_cons_succ, i64_w, i32_w]
          rfl
        refine two_ (i := 5) (j := 7) (Ni := some 11) (Nj := some 3) #[true, true, true, true, true, true, true, false, false, false] #[true, true, true, true, true, false, true, true, false, false] rfl rfl rfl rfl (by kernel_rfl) (by decide) (by decide) (fun K hK => ?_) (fun K hK => ?_)
        · skip
          refine goes_ Try.func11 (by kernel_rfl) rfl #[.agg #[.slice none 0 0, .slice none 0 0, .string ⟨#[]⟩], .agg #[.slice (some ⟨h, 0, none⟩) 1 1, .slice none 0 0, .string rB]] (by rfl) rfl rfl (by simp only [List.map_toArray, List.map_cons, List.map_nil]; rfl) ?_
          with_reducible refine (ofB_calls h _ X2.out.c0).mono ?_
          rintro e w5 ⟨vb, rfl, hd, hb⟩
          refine ⟨_, rfl, ?_⟩
          have X3 := Aside0.mk ((X2.out.on hb).set5 (hd.lower X2.out.below.size))
          clear hd hb
          refine hK.out _ _ (X3.out.box) (fun hHeld => ?_)
          clear hK K
          refine norm_ (a' := ?_) ?_ ?_
          rotate_left
          · show Act.put _ (some 11) _ = _
            simp only [Act.put, List.setIfInBounds_toArray, List.set_cons_zero, List.set_cons_succ, i64_w, i32_w]
            rfl
          refine one_ (i := 7) (N := some 3) #[true, true, true, true, true, true, true, true, false, false] rfl rfl (by kernel_rfl) (by decide) (fun K hK => ?_)
          refine value_ (w1 := ?_) (v := ?_) (by rfl) rfl ?_ ?_
          rotate_left 2
          · go_simp
            constructor
            · rfl
            · rfl
          have X4 := Aside0.mk (X3.out.alloc7)
          generalize w5.alloc (.cells Try.zeroCells32 32) = w6 at X4 ⊢
          generalize w5.heap.size = k7 at X4 ⊢
          refine hK.out _ _ (X4.out.box) (fun hHeld => ?_)
          clear hK K
          refine norm_ (a' := ?_) ?_ ?_
          rotate_left
          · show Act.put _ (some 3) _ = _
            simp only [Act.put, List.setIfInBounds_toArray, List.set_cons_zero, List.set_cons_succ, i64_w, i32_w]
            rfl
          exact norm_ (by simp only [putAll, Act.put, List.setIfInBounds_toArray, List.set_cons_zero, List.set_cons_succ, sz]) (hCont ⟨va, vb, k6, k7⟩ _ X4.out)
        · skip
          refine value_ (w1 := ?_) (v := ?_) (by rfl) rfl ?_ ?_
          rotate_left 2
          · go_simp
            constructor
            · rfl
            · rfl
          have X3 := Aside0.mk (X2.out.alloc7)
          generalize w4.alloc (.cells Try.zeroCells32 32) = w5 at X3 ⊢
          generalize w4.heap.size = k7 at X3 ⊢
          refine hK.out _ _ (X3.out.box) (fun hHeld => ?_)
          clear hK K
          refine norm_ (a' := ?_) ?_ ?_
          rotate_left
          · show Act.put _ (some 3) _ = _
            simp only [Act.put, List.setIfInBounds_toArray, List.set_cons_zero, List.set_cons_succ, i64_w, i32_w]
            rfl
          refine one_ (i := 5) (N := some 11) #[true, true, true, true, true, true, true, true, false, false] rfl rfl (by kernel_rfl) (by decide) (fun K hK => ?_)
          refine goes_ Try.func11 (by kernel_rfl) rfl #[.agg #[.slice none 0 0, .slice none 0 0, .string ⟨#[]⟩], .agg #[.slice (some ⟨h, 0, none⟩) 1 1, .slice none 0 0, .string rB]] (by rfl) rfl rfl (by simp only [List.map_toArray, List.map_cons, List.map_nil]; rfl) ?_
          with_reducible refine (ofB_calls h _ X3.out.c0).mono ?_
          rintro e w6 ⟨vb, rfl, hd, hb⟩
          refine ⟨_, rfl, ?_⟩
          have X4 := Aside0.mk ((X3.out.on hb).set5 (hd.lower X3.out.below.size))
          clear hd hb
          refine hK.out _ _ (X4.out.box) (fun hHeld => ?_)
          clear hK K
          refine norm_ (a' := ?_) ?_ ?_
          rotate_left
          · show Act.put _ (some 11) _ = _
            simp only [Act.put, List.setIfInBounds_toArray, List.set_cons_zero, List.set_cons_succ, i64_w, i32_w]
            rfl
          exact norm_ (by simp only [putAll, Act.put, List.setIfInBounds_toArray, List.set_cons_zero, List.set_cons_succ, sz]) (hCont ⟨va, vb, k6, k7⟩ _ X4.out)
      · skip
        refine value_ (w1 := ?_) (v := ?_) (by rfl) rfl ?_ ?_
        rotate_left 2
        · go_simp
          constructor
          · rfl
          · rfl
        have X2 := Aside0.mk (X1.out.alloc7)
        generalize w3.alloc (.cells Try.zeroCells32 32) = w4 at X2 ⊢
        generalize w3.heap.size = k7 at X2 ⊢
        refine hK.out _ _ (X2.out.box) (fun hHeld => ?_)
        clear hK K
        refine norm_ (a' := ?_) ?_ ?_
        rotate_left
        · show Act.put _ (some 3) _ = _
          simp only [Act.put, List.setIfInBounds_toArray, List.set_cons_zero, List.set_cons_succ, i64_w, i32_w]
          rfl
        refine one_ (i := 2) (N := some 8) #[true, true, true, true, true, false, true, true, false, false] rfl rfl (by kernel_rfl) (by decide) (fun K hK => ?_)
        refine goes_ Try.func11 (by kernel_rfl) rfl #[.agg #[.slice (some ⟨h, 0, none⟩) 1 1, .slice none 0 0, .string rB], .agg #[.slice (some ⟨h, 0, none⟩) 1 1, .slice none 0 0, .string rB]] (by rfl) rfl rfl (by simp only [List.map_toArray, List.map_cons, List.map_nil]; rfl) ?_
        with_reducible refine (ofA_calls h _ X2.out.c0).mono ?_
        rintro e w5 ⟨va, rfl, hd, hb⟩
        refine ⟨_, rfl, ?_⟩
        have X3 := Aside0.mk ((X2.out.on hb).set2 (hd.lower X2.out.below.size))
        clear hd hb
        refine hK.out _ _ (X3.out.box) (fun hHeld => ?_)
        clear hK K
        refine norm_ (a' := ?_) ?_ ?_
        rotate_left
        · show Act.put _ (some 8) _ = _
          simp only [Act.put, List.setIfInBounds_toArray, List.set_cons_zero, List.set_cons_succ, i64_w, i32_w]
          rfl
        refine one_ (i := 5) (N := some 11) #[true, true, true, true, true, true, true, true, false, false] rfl rfl (by kernel_rfl) (by decide) (fun K hK => ?_)
        refine goes_ Try.func11 (by kernel_rfl) rfl #[.agg #[.slice none 0 0, .slice none 0 0, .string ⟨#[]⟩], .agg #[.slice (some ⟨h, 0, none⟩) 1 1, .slice none 0 0, .string rB]] (by rfl) rfl rfl (by simp only [List.map_toArray, List.map_cons, List.map_nil]; rfl) ?_
        with_reducible refine (ofB_calls h _ X3.out.c0).mono ?_
        rintro e w6 ⟨vb, rfl, hd, hb⟩
        refine ⟨_, rfl, ?_⟩
        have X4 := Aside0.mk ((X3.out.on hb).set5 (hd.lower X3.out.below.size))
        clear hd hb
        refine hK.out _ _ (X4.out.box) (fun hHeld => ?_)
        clear hK K
        refine norm_ (a' := ?_) ?_ ?_
        rotate_left
        · show Act.put _ (some 11) _ = _
          simp only [Act.put, List.setIfInBounds_toArray, List.set_cons_zero, List.set_cons_succ, i64_w, i32_w]
          rfl
        exact norm_ (by simp only [putAll, Act.put, List.setIfInBounds_toArray, List.set_cons_zero, List.set_cons_succ, sz]) (hCont ⟨va, vb, k6, k7⟩ _ X4.out)
    · skip
      refine value_ (w1 := ?_) (v := ?_) (by rfl) rfl ?_ ?_
      rotate_left 2
      · go_simp
        constructor
        · rfl
        · rfl
      have X1 := Aside0.mk (X0.out.alloc7)
      generalize wd.alloc (.cells Try.zeroCells32 32) = w3 at X1 ⊢
      generalize wd.heap.size = k7 at X1 ⊢
      refine hK.out _ _ (X1.out.box) (fun hHeld => ?_)
      clear hK K
      refine norm_ (a' := ?_) ?_ ?_
      rotate_left
      · show Act.put _ (some 3) _ = _
        simp only [Act.put, List.setIfInBounds_toArray, List.set_cons_zero, List.set_cons_succ, i64_w, i32_w]
        rfl
      refine two_ (i := 2) (j := 6) (Ni := some 8) (Nj := some 2) #[true, true, true, true, true, false, false, true, false, false] #[true, true, false, true, true, false, true, true, false, false] rfl rfl rfl rfl (by kernel_rfl) (by decide) (by decide) (fun K hK => ?_) (fun K hK => ?_)
      · skip
        refine goes_ Try.func11 (by kernel_rfl) rfl #[.agg #[.slice (some ⟨h, 0, none⟩) 1 1, .slice none 0 0, .string rB], .agg #[.slice (some ⟨h, 0, none⟩) 1 1, .slice none 0 0, .string rB]] (by rfl) rfl rfl (by simp only [List.map_toArray, List.map_cons, List.map_nil]; rfl) ?_
        with_reducible refine (ofA_calls h _ X1.out.c0).mono ?_
        rintro e w4 ⟨va, rfl, hd, hb⟩
        refine ⟨_, rfl, ?_⟩
        have X2 := Aside0.mk ((X1.out.on hb).set2 (hd.lower X1.out.below.size))
        clear hd hb
        refine hK.out _ _ (X2.out.box) (fun hHeld => ?_)
        clear hK K
        refine norm_ (a' := ?_) ?_ ?_
        rotate_left
        · show Act.put _ (some 8) _ = _
          simp only [Act.put, List.setIfInBounds_toArray, List.set_cons_zero, List.set_cons_succ, i64_w, i32_w]
          rfl
        refine two_ (i := 5) (j := 6) (Ni := some 11) (Nj := some 2) #[true, true, true, true, true, true, false, true, false, false] #[true, true, true, true, true, false, true, true, false, false] rfl rfl rfl rfl (by kernel_rfl) (by decide) (by decide) (fun K hK => ?_) (fun K hK => ?_)
        · skip
          refine goes_ Try.func11 (by kernel_rfl) rfl #[.agg #[.slice none 0 0, .slice none 0 0, .string ⟨#[]⟩], .agg #[.slice (some ⟨h, 0, none⟩) 1 1, .slice none 0 0, .string rB]] (by rfl) rfl rfl (by simp only [List.map_toArray, List.map_cons, List.map_nil]; rfl) ?_
          with_reducible refine (ofB_calls h _ X2.out.c0).mono ?_
          rintro e w5 ⟨vb, rfl, hd, hb⟩
          refine ⟨_, rfl, ?_⟩
          have X3 := Aside0.mk ((X2.out.on hb).set5 (hd.lower X2.out.below.size))
          clear hd hb
          refine hK.out _ _ (X3.out.box) (fun hHeld => ?_)
          clear hK K
          refine norm_ (a' := ?_) ?_ ?_
          rotate_left
          · show Act.put _ (some 11) _ = _
            simp only [Act.put, List.setIfInBounds_toArray, List.set_cons_zero, List.set_cons_succ, i64_w, i32_w]
            rfl
          refine one_ (i := 6) (N := some 2) #[true, true, true, true, true, true, true, true, false, false] rfl rfl (by kernel_rfl) (by decide) (fun K hK => ?_)
          refine value_ (w1 := ?_) (v := ?_) (by rfl) rfl ?_ ?_
          rotate_left 2
          · go_simp
            constructor
            · rfl
            · rfl
          have X4 := Aside0.mk (X3.out.alloc6)
          generalize w5.alloc (.cells Try.zeroCells32 32) = w6 at X4 ⊢
          generalize w5.heap.size = k6 at X4 ⊢
          refine hK.out _ _ (X4.out.box) (fun hHeld => ?_)
          clear hK K
          refine norm_ (a' := ?_) ?_ ?_
          rotate_left
          · show Act.put _ (some 2) _ = _
            simp only [Act.put, List.setIfInBounds_toArray, List.set_cons_zero, List.set_cons_succ, i64_w, i32_w]
            rfl
          exact norm_ (by simp only [putAll, Act.put, List.setIfInBounds_toArray, List.set_cons_zero, List.set_cons_succ, sz]) (hCont ⟨va, vb, k6, k7⟩ _ X4.out)
        · skip
          refine value_ (w1 := ?_) (v := ?_) (by rfl) rfl ?_ ?_
          rotate_left 2
          · go_simp
            constructor
            · rfl
            · rfl
          have X3 := Aside0.mk (X2.out.alloc6)
          generalize w4.alloc (.cells Try.zeroCells32 32) = w5 at X3 ⊢
          generalize w4.heap.size = k6 at X3 ⊢
          refine hK.out _ _ (X3.out.box) (fun hHeld => ?_)
          clear hK K
          refine norm_ (a' := ?_) ?_ ?_
          rotate_left
          · show Act.put _ (some 2) _ = _
            simp only [Act.put, List.setIfInBounds_toArray, List.set_cons_zero, List.set_cons_succ, i64_w, i32_w]
            rfl
          refine one_ (i := 5) (N := some 11) #[true, true, true, true, true, true, true, true, false, false] rfl rfl (by kernel_rfl) (by decide) (fun K hK => ?_)
          refine goes_ Try.func11 (by kernel_rfl) rfl #[.agg #[.slice none 0 0, .slice none 0 0, .string ⟨#[]⟩], .agg #[.slice (some ⟨h, 0, none⟩) 1 1, .slice none 0 0, .string rB]] (by rfl) rfl rfl (by simp only [List.map_toArray, List.map_cons, List.map_nil]; rfl) ?_
          with_reducible refine (ofB_calls h _ X3.out.c0).mono ?_
          rintro e w6 ⟨vb, rfl, hd, hb⟩
          refine ⟨_, rfl, ?_⟩
          have X4 := Aside0.mk ((X3.out.on hb).set5 (hd.lower X3.out.below.size))
          clear hd hb
          refine hK.out _ _ (X4.out.box) (fun hHeld => ?_)
          clear hK K
          refine norm_ (a' := ?_) ?_ ?_
          rotate_left
          · show Act.put _ (some 11) _ = _
            simp only [Act.put, List.setIfInBounds_toArray, List.set_cons_zero, List.set_cons_succ, i64_w, i32_w]
            rfl
          exact norm_ (by simp only [putAll, Act.put, List.setIfInBounds_toArray, List.set_cons_zero, List.set_cons_succ, sz]) (hCont ⟨va, vb, k6, k7⟩ _ X4.out)
      · skip
        refine value_ (w1 := ?_) (v := ?_) (by rfl) rfl ?_ ?_
        rotate_left 2
        · go_simp
          constructor
          · rfl
          · rfl
        have X2 := Aside0.mk (X1.out.alloc6)
        generalize w3.alloc (.cells Try.zeroCells32 32) = w4 at X2 ⊢
        generalize w3.heap.size = k6 at X2 ⊢
        refine hK.out _ _ (X2.out.box) (fun hHeld => ?_)
        clear hK K
        refine norm_ (a' := ?_) ?_ ?_
        rotate_left
        · show Act.put _ (some 2) _ = _
          simp only [Act.put, List.setIfInBounds_toArray, List.set_cons_zero, List.set_cons_succ, i64_w, i32_w]
          rfl
        refine one_ (i := 2) (N := some 8) #[true, true, true, true, true, false, true, true, false, false] rfl rfl (by kernel_rfl) (by decide) (fun K hK => ?_)
        refine goes_ Try.func11 (by kernel_rfl) rfl #[.agg #[.slice (some ⟨h, 0, none⟩) 1 1, .slice none 0 0, .string rB], .agg #[.slice (some ⟨h, 0, none⟩) 1 1, .slice none 0 0, .string rB]] (by rfl) rfl rfl (by simp only [List.map_toArray, List.map_cons, List.map_nil]; rfl) ?_
        with_reducible refine (ofA_calls h _ X2.out.c0).mono ?_
        rintro e w5 ⟨va, rfl, hd, hb⟩
        refine ⟨_, rfl, ?_⟩
        have X3 := Aside0.mk ((X2.out.on hb).set2 (hd.lower X2.out.below.size))
        clear hd hb
        refine hK.out _ _ (X3.out.box) (fun hHeld => ?_)
        clear hK K
        refine norm_ (a' := ?_) ?_ ?_
        rotate_left
        · show Act.put _ (some 8) _ = _
          simp only [Act.put, List.setIfInBounds_toArray, List.set_cons_zero, List.set_cons_succ, i64_w, i32_w]
          rfl
        refine one_ (i := 5) (N := some 11) #[true, true, true, true, true, true, true, true, false, false] rfl rfl (by kernel_rfl) (by decide) (fun K hK => ?_)
        refine goes_ Try.func11 (by kernel_rfl) rfl #[.agg #[.slice none 0 0, .slice none 0 0, .string ⟨#[]⟩], .agg #[.slice (some ⟨h, 0, none⟩) 1 1, .slice none 0 0, .string rB]] (by rfl) rfl rfl (by simp only [List.map_toArray, List.map_cons, List.map_nil]; rfl) ?_
        with_reducible refine (ofB_calls h _ X3.out.c0).mono ?_
        rintro e w6 ⟨vb, rfl, hd, hb⟩
        refine ⟨_, rfl, ?_⟩
        have X4 := Aside0.mk ((X3.out.on hb).set5 (hd.lower X3.out.below.size))
        clear hd hb
        refine hK.out _ _ (X4.out.box) (fun hHeld => ?_)
        clear hK K
        refine norm_ (a' := ?_) ?_ ?_
        rotate_left
        · show Act.put _ (some 11) _ = _
          simp only [Act.put, List.setIfInBounds_toArray, List.set_cons_zero, List.set_cons_succ, i64_w, i32_w]
          rfl
        exact norm_ (by simp only [putAll, Act.put, List.setIfInBounds_toArray, List.set_cons_zero, List.set_cons_succ, sz]) (hCont ⟨va, vb, k6, k7⟩ _ X4.out)
  rintro ⟨v2, v5, g6, g7⟩ w9 hX
  replace hX : FX w h w9 g #[.slice (some ⟨h, 0, none⟩) 1 1, .slice none 0 0, .string rB] (some v2) (some v5) (some g6) (some g7) := hX
  have hHeld : Blk w9 g 24 #[.slice (some ⟨h, 0, none⟩) 1 1, .slice none 0 0, .string rB] := hX.box
  obtain ⟨L2, M2, hL2, hM2, P1, p1, P2, p2, ev2, C21, C22⟩ := hX.d2 _ rfl
  obtain ⟨L5, M5, hL5, hM5, Q1, q1, Q2, q2, ev5, C51, C52⟩ := hX.d5 _ rfl
  subst ev2 ev5
  refine norm_ (a' := ?_) ?_ ?_
  rotate_left
  · simp only [putAll, Act.put, List.setIfInBounds_toArray, List.set_cons_zero, List.set_cons_succ]
    rfl
  refine last_ (i := 8) (N := none) #[true, true, true, true, true, true, true, true, true, false] rfl rfl (by kernel_rfl) (by decide) (fun K hK => ?_)
  refine skip_ (w1 := w9.setRow g6 (dArr L2 (.slice P1 ([] : List S36).length p1) (.slice P2 ([] : List S36).length p2) rB M2)) (by rfl) rfl ?_ ?_
  · exact row_stores 32 (.tmp 2) (.tmp 8) rfl g6 _ rfl rfl (hX.a6 _ rfl).1 (by rw [dArr_size hL2 hM2]; kernel_rfl) (by rw [dArr_size hL2 hM2, dArr_size (outL_len _ _) (outL_len _ _)]) (dArr_one _ _ _ _ _ _ _ _ _)
  refine hK.out _ _ ?_
  clear hK K
  refine last_ (i := 9) (N := none) #[true, true, true, true, true, true, true, true, true, true] rfl rfl (by kernel_rfl) (by decide) (fun K hK => ?_)
  refine skip_ (w1 := (w9.setRow g6 (dArr L2 (.slice P1 ([] : List S36).length p1) (.slice P2 ([] : List S36).length p2) rB M2)).setRow g7 (dArr L5 (.slice Q1 [(⟨0, xB⟩ : S36)].length q1) (.slice Q2 ([] : List S36).length q2) rB M5)) (by rfl) rfl ?_ ?_
  · exact row_stores 32 (.tmp 3) (.tmp 11) rfl g7 _ rfl rfl ((hX.a7 _ rfl).1.setRow_far (hX.ne _ _ rfl rfl).symm _) (by rw [dArr_size hL5 hM5]; kernel_rfl) (by rw [dArr_size hL5 hM5, dArr_size (outL_len _ _) (outL_len _ _)]) (dArr_one _ _ _ _ _ _ _ _ _)
  refine hK.out _ _ ?_
  clear hK K
  refine done_ (by kernel_rfl) ?_

  have Bd := ((hX.a6 _ rfl).1.setRow_ (dArr L2 (.slice P1 ([] : List S36).length p1) (.slice P2 ([] : List S36).length p2) rB M2)).setRow_far (k := g7) (hX.ne _ _ rfl rfl) (dArr L5 (.slice Q1 [(⟨0, xB⟩ : S36)].length q1) (.slice Q2 ([] : List S36).length q2) rB M5)
  have Be := ((hX.a7 _ rfl).1.setRow_far (k := g6) (hX.ne _ _ rfl rfl).symm (dArr L2 (.slice P1 ([] : List S36).length p1) (.slice P2 ([] : List S36).length p2) rB M2)).setRow_ (dArr L5 (.slice Q1 [(⟨0, xB⟩ : S36)].length q1) (.slice Q2 ([] : List S36).length q2) rB M5)
  have R5 := R_setRowT (R_setRowT C51 (hX.a6 _ rfl).1 (by decide) (dArr L2 (.slice P1 ([] : List S36).length p1) (.slice P2 ([] : List S36).length p2) rB M2)) ((hX.a7 _ rfl).1.setRow_far (k := g6) (hX.ne _ _ rfl rfl).symm (dArr L2 (.slice P1 ([] : List S36).length p1) (.slice P2 ([] : List S36).length p2) rB M2)) (by decide) (dArr L5 (.slice Q1 [(⟨0, xB⟩ : S36)].length q1) (.slice Q2 ([] : List S36).length q2) rB M5)
  have WZ := below_setRow' (below_setRow' hX.below (show w.heap.size ≤ g6 by have := (hX.a6 _ rfl).2; have := hX.low; omega) (dArr L2 (.slice P1 ([] : List S36).length p1) (.slice P2 ([] : List S36).length p2) rB M2)) (show w.heap.size ≤ g7 by have := (hX.a7 _ rfl).2; have := hX.low; omega) (dArr L5 (.slice Q1 [(⟨0, xB⟩ : S36)].length q1) (.slice Q2 ([] : List S36).length q2) rB M5)
  generalize (w9.setRow g6 (dArr L2 (.slice P1 ([] : List S36).length p1) (.slice P2 ([] : List S36).length p2) rB M2)).setRow g7 (dArr L5 (.slice Q1 [(⟨0, xB⟩ : S36)].length q1) (.slice Q2 ([] : List S36).length q2) rB M5) = wz at Bd Be R5 WZ ⊢
  have d1 := (Bd.cell 32).trans (dArr_f1 hL2)
  have d2 := (Bd.cell 33).trans (dArr_f2 hL2)
  have e1 := (Be.cell 32).trans (dArr_f1 hL5)
  obtain ⟨ad, ea, x1, x2⟩ := at_T36 (Kd.R_reads' R5).2.2 0 (by decide) (by decide)
  clear hX hHeld C51 C52 C21 C22 Bd Be R5
  cases ea
  replace x1 : wz.cell? ad = some (.int .i64 0) := by simpa [rd_T36, show ad.add 0 = ad by simp [Addr.add]] using x1
  replace x2 : wz.cell? ⟨ad.block, ad.off + 1, none⟩ = some (.string ⟨#[120]⟩) := by simpa [rd_T36, xB, show ad.add 0 = ad by simp [Addr.add]] using x2
  go_wp2_with fail
  go_ret
  exact ⟨rfl, WZ⟩
end Go.Proofs.Ytoljjgabgdifbaa.H
