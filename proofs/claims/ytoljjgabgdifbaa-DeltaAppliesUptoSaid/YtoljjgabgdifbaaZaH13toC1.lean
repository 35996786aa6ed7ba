/- Parts of the proof: H13, H14, R5, C1. -/
import Derived.Test.YtoljjgabgdifbaaZaH12
import Derived.Test.YtoljjgabgdifbaaZaR3toH11
import Derived.Deep.MidRow
import Derived.Stop.BytesEq
import Derived.Test.YtoljjgabgdifbaaZaG
import Derived.Test.YtoljjgabgdifbaaZaShelf
import Derived.DataReads

namespace Go.Proofs.Ytoljjgabgdifbaa.H
open Go.RowKit Go.Proofs.YtoljjgabgdifbaaW.PrintWords Go.Proofs.YtoljjgabgdifbaaW.PrintLast Go.Proofs.YtoljjgabgdifbaaW.PrintMore
set_option linter.unusedVariables false
set_option linter.unusedSimpArgs false

def xB : ByteArray := ⟨#[120]⟩
def rB : ByteArray := ⟨#[114]⟩
def fA : S24 := ⟨[xB], [], rB⟩
def fZ : S24 := ⟨[], [], ⟨#[]⟩⟩
/-- A delta with two digests, whatever they are. -/
def DL (W : World) (base : Nat) (v : Value) (r1 r2 : List S36) (s : ByteArray) : Prop :=
  ∃ L M, L.length = 32 ∧ M.length = 32 ∧ DeltaAt W base v L r1 r2 s M
theorem DL.below {W W' : World} {base : Nat} {v : Value} {r1 r2 : List S36} {s : ByteArray} (h : DL W base v r1 r2 s) (hb : Below W.heap.size W W') : DL W' base v r1 r2 s := by
  obtain ⟨L, M, hL, hM, h⟩ := h
  exact ⟨L, M, hL, hM, h.below hb⟩
theorem DL.lower {W : World} {base b : Nat} {v : Value} {r1 r2 : List S36} {s : ByteArray} (h : DL W base v r1 r2 s) (hb : b ≤ base) : DL W b v r1 r2 s := by
  obtain ⟨L, M, hL, hM, A1, c1, A2, c2, e, h1, h2⟩ := h
  exact ⟨L, M, hL, hM, A1, c1, A2, c2, e, Kd.R_lower h1 hb, Kd.R_lower h2 hb⟩
theorem ofA_calls (h : Nat) (w : World) (hc : Kd.C Kd.string w (some ⟨h, 0, none⟩) 1 [xB]) :
    Calls Try.prog 11 #[.agg #[.slice (some ⟨h, 0, none⟩) 1 1, .slice none 0 0, .string rB], .agg #[.slice (some ⟨h, 0, none⟩) 1 1, .slice none 0 0, .string rB]] w fun e w' => ∃ v, e = .returned v ∧ DL w' w.heap.size v [] [] rB ∧ Below w.heap.size w w' := by
  refine (of_calls 3 (some ⟨h, 0, none⟩) 1 none 0 fA (some ⟨h, 0, none⟩) 1 none 0 fA [] [] w hc (Nat.le_refl _) (Kd.C_nil _ _) (Nat.le_refl _) hc (Nat.le_refl _) (Kd.C_nil _ _) (Nat.le_refl _) (by decide +kernel) (by decide +kernel) (by unfold delta_writes.f; simp [delta_writes.l0, aOf, fA, fZ, rdOf, wrap64]) (by unfold delta_writes.f; simp [delta_writes.l0, aOf, fA, fZ, rdOf, wrap64])).mono ?_
  rintro e w' ⟨A1, c1, A2, c2, rfl, h1, h2, hb⟩
  exact ⟨_, rfl, ⟨_, _, imgSum_len _ _ _, imgSum_len _ _ _, A1, c1, A2, c2, rfl, h1, h2⟩, hb⟩
theorem ofB_calls (h : Nat) (w : World) (hc : Kd.C Kd.string w (some ⟨h, 0, none⟩) 1 [xB]) :
    Calls Try.prog 11 #[.agg #[.slice none 0 0, .slice none 0 0, .string ⟨#[]⟩], .agg #[.slice (some ⟨h, 0, none⟩) 1 1, .slice none 0 0, .string rB]] w fun e w' => ∃ v, e = .returned v ∧ DL w' w.heap.size v [⟨0, xB⟩] [] rB ∧ Below w.heap.size w w' := by
  refine (of_calls 3 none 0 none 0 fZ (some ⟨h, 0, none⟩) 1 none 0 fA [⟨0, xB⟩] [] w (Kd.C_nil _ _) (Nat.le_refl _) (Kd.C_nil _ _) (Nat.le_refl _) hc (Nat.le_refl _) (Kd.C_nil _ _) (Nat.le_refl _) (by decide +kernel) (by decide +kernel) (by unfold delta_writes.f; simp [delta_writes.l0, aOf, fA, fZ, rdOf, wrap64]) (by unfold delta_writes.f; simp [delta_writes.l0, aOf, fA, fZ, rdOf, wrap64])).mono ?_
  rintro e w' ⟨A1, c1, A2, c2, rfl, h1, h2, hb⟩
  exact ⟨_, rfl, ⟨_, _, imgSum_len _ _ _, imgSum_len _ _ _, A1, c1, A2, c2, rfl, h1, h2⟩, hb⟩
theorem dArr_f1 {L M : List Int} {v1 v2 : Value} {s : ByteArray} (hL : L.length = 32) : (dArr L v1 v2 s M)[32]? = some v1 := by
  simp [dArr, nums, List.getElem?_append, hL]
theorem dArr_f2 {L M : List Int} {v1 v2 : Value} {s : ByteArray} (hL : L.length = 32) : (dArr L v1 v2 s M)[33]? = some v2 := by
  simp [dArr, nums, List.getElem?_append, hL]
/-- How far the examples' deltas are told, in whatever order. -/
structure FX (w0 : World) (h : Nat) (W : World) (g : Nat) (cs : Array Value) (v2 v5 : Option Value) (g6 g7 : Option Nat) : Prop where
  below : Below w0.heap.size w0 W
  low : w0.heap.size ≤ g
  box : Blk W g 24 cs
  c0 : Kd.C Kd.string W (some ⟨h, 0, none⟩) 1 [xB]
  d2 : ∀ v, v2 = some v → DL W w0.heap.size v [] [] rB
  d5 : ∀ v, v5 = some v → DL W w0.heap.size v [⟨0, xB⟩] [] rB
  a6 : ∀ k, g6 = some k → Blk W k 32 (dArr (outL [] 0) (.slice none 0 0) (.slice none 0 0) ⟨#[]⟩ (outL [] 0)) ∧ g < k
  a7 : ∀ k, g7 = some k → Blk W k 32 (dArr (outL [] 0) (.slice none 0 0) (.slice none 0 0) ⟨#[]⟩ (outL [] 0)) ∧ g < k
  ne : ∀ j k, g6 = some j → g7 = some k → j ≠ k
section
variable {w0 W W' : World} {h g : Nat} {cs : Array Value} {v2 v5 : Option Value} {g6 g7 : Option Nat}
theorem FX.on (X : FX w0 h W g cs v2 v5 g6 g7) (hb : Below W.heap.size W W') : FX w0 h W' g cs v2 v5 g6 g7 :=
  ⟨below_then X.below X.below.size hb, X.low, X.box.below hb X.box.lt, Kd.C_below X.c0 hb, fun v e => (X.d2 v e).below hb, fun v e => (X.d5 v e).below hb,
    fun k e => ⟨(X.a6 k e).1.below hb (X.a6 k e).1.lt, (X.a6 k e).2⟩, fun k e => ⟨(X.a7 k e).1.below hb (X.a7 k e).1.lt, (X.a7 k e).2⟩, X.ne⟩
theorem FX.set2 (X : FX w0 h W g cs v2 v5 g6 g7) {v : Value} (d : DL W w0.heap.size v [] [] rB) : FX w0 h W g cs (some v) v5 g6 g7 :=
  ⟨X.below, X.low, X.box, X.c0, fun u e => by injection e with e; subst e; exact d, X.d5, X.a6, X.a7, X.ne⟩
theorem FX.set5 (X : FX w0 h W g cs v2 v5 g6 g7) {v : Value} (d : DL W w0.heap.size v [⟨0, xB⟩] [] rB) : FX w0 h W g cs v2 (some v) g6 g7 :=
  ⟨X.below, X.low, X.box, X.c0, X.d2, fun u e => by injection e with e; subst e; exact d, X.a6, X.a7, X.ne⟩
theorem FX.alloc6 (X : FX w0 h W g cs v2 v5 none g7) : FX w0 h (W.alloc (.cells Try.zeroCells32 32)) g cs v2 v5 (some W.heap.size) g7 := by
  have Y := X.on (below_alloc (Below.refl _ _) (.cells Try.zeroCells32 32))
  refine ⟨Y.below, Y.low, Y.box, Y.c0, Y.d2, Y.d5, fun k e => ?_, Y.a7, fun j k e1 e2 => ?_⟩
  · injection e with e
    subst e
    rw [← z32]
    exact ⟨Blk.new _ _ _, X.box.lt⟩
  · injection e1 with e1
    subst e1
    have := (X.a7 k e2).1.lt
    omega
theorem FX.alloc7 (X : FX w0 h W g cs v2 v5 g6 none) : FX w0 h (W.alloc (.cells Try.zeroCells32 32)) g cs v2 v5 g6 (some W.heap.size) := by
  have Y := X.on (below_alloc (Below.refl _ _) (.cells Try.zeroCells32 32))
  refine ⟨Y.below, Y.low, Y.box, Y.c0, Y.d2, Y.d5, Y.a6, fun k e => ?_, fun j k e1 e2 => ?_⟩
  · injection e with e
    subst e
    rw [← z32]
    exact ⟨Blk.new _ _ _, X.box.lt⟩
  · injection e2 with e2
    subst e2
    have := (X.a6 j e1).1.lt
    omega
end

set_option maxRecDepth 100000 in
set_option maxHeartbeats 8000000 in
theorem fixed_calls (w : World) : Calls Try.prog 9 #[] w fun e w' => e = .returned (.bool true) ∧ Below w.heap.size w w' := by
  go_enter Try.func9, Try.ntmps9
  go_wp2_with fail
  have X : FX w w.heap.size ((w.alloc (.cells #[.string xB] 9)).alloc (.cells #[.slice (some ⟨w.heap.size, 0, none⟩) 1 1, .slice none 0 0, .string rB] 24)) (w.heap.size + 1) #[.slice (some ⟨w.heap.size, 0, none⟩) 1 1, .slice none 0 0, .string rB] none none none none := by
    have B := Blk.new (w.alloc (.cells #[.string xB] 9)) 24 #[.slice (some ⟨w.heap.size, 0, none⟩) 1 1, .slice none 0 0, .string rB]
    rw [sz] at B
    exact ⟨((Below.refl w.heap.size w).alloc (Nat.le_refl _) _).alloc (by rw [sz]; omega) _, by omega, B, Kd.C_alloc (strings_new w [xB] (by simp)) _, by simp, by simp, by simp, by simp, by simp⟩
  rw [show (w.alloc (.cells #[.string ⟨#[120]⟩] 9)).alloc (.cells #[.slice (some ⟨w.heap.size, 0, none⟩) 1 1, .slice none 0 0, .string ⟨#[114]⟩] 24) = (w.alloc (.cells #[.string xB] 9)).alloc (.cells #[.slice (some ⟨w.heap.size, 0, none⟩) 1 1, .slice none 0 0, .string rB] 24) from rfl]
  generalize (w.alloc (.cells #[.string xB] 9)).alloc (.cells #[.slice (some ⟨w.heap.size, 0, none⟩) 1 1, .slice none 0 0, .string rB] 24) = w1 at X ⊢
  generalize w.heap.size + 1 = g at X ⊢
  obtain ⟨h, eh⟩ : ∃ h, h = w.heap.size := ⟨_, rfl⟩
  rw [← eh]
  replace X : FX w h w1 g #[.slice (some ⟨h, 0, none⟩) 1 1, .slice none 0 0, .string rB] none none none none := by rw [eh]; exact X
  clear eh
  have X0 := Aside0.mk (X.on (below_drew (Below.refl _ w1)))
  clear X
  refine start_ (n := 10) (S := fun w' => Blk w' g 24 #[.slice (some ⟨h, 0, none⟩) 1 1, .slice none 0 0, .string rB]) (ds := [8, 9]) #[false, false, false, false, false, false, false, false, false, false] (by kernel_rfl) rfl rfl (X0.out.box) (fun hHeld => ?_)
  generalize w1.drew = wd at hHeld X0 ⊢
  refine pure_ (i := 3) (N := some 9) (v := ?_) (a' := ?_) #[false, false, false, true, false, false, false, false, false, false] rfl rfl (by kernel_rfl) (fun _ _ _ h => h) (Or.inl ⟨by rfl, ?_⟩) ?_ ?_
  rotate_left
  · intro w'
    go_simp
    with_reducible rfl
  rotate_left
  · simp only [Act.put, List.setIfInBounds_toArray, List.set_cons_zero, List.set_cons_succ, i64_w, i32_w]
    rfl
  refine take_ (i := 0) (N := some 6) (v := ?_) (a' := ?_) #[true, false, false, true, false, false, false, false, false, false] rfl rfl (by kernel_rfl) (fun _ _ _ h => h) (Or.inl ⟨by rfl, ?_⟩) hHeld ?_ ?_
  rotate_left
  · intro w' s0
    refine row_loads 24 (.tmp 1) ?_ g ?_ s0 Try.underlying24 ?_ ?_
    · rfl
    · rfl
    · rfl
    · kernel_rfl
  rotate_left
  · simp only [Act.put, List.setIfInBounds_toArray, List.set_cons_zero, List.set_cons_succ, i64_w, i32_w]
    rfl
  refine take_ (i := 1) (N := some 7) (v := ?_) (a' := ?_) #[true, true, false, true, false, false, false, false, false, false] rfl rfl (by kernel_rfl) (fun _ _ _ h => h) (Or.inl ⟨by rfl, ?_⟩) hHeld ?_ ?_
  rotate_left
  · intro w' s0
    refine row_loads 24 (.tmp 1) ?_ g ?_ s0 Try.underlying24 ?_ ?_
    · rfl
    · rfl
    · rfl
    · kernel_rfl
  rotate_left
  · simp only [Act.put, List.setIfInBounds_toArray, List.set_cons_zero, List.set_cons_succ, i64_w, i32_w]
    rfl
  refine take_ (i := 4) (N := some 10) (v := ?_) (a' := ?_) #[true, true, false, true, true, false, false, false, false, false] rfl rfl (by kernel_rfl) (fun _ _ _ h => h) (Or.inl ⟨by rfl, ?_⟩) hHeld ?_ ?_
  rotate_left
  · intro w' s0
    refine row_loads 24 (.tmp 1) ?_ g ?_ s0 Try.underlying24 ?_ ?_
    · rfl
    · rfl
    · rfl
    · kernel_rfl
  rotate_left
  · simp only [Act.put, List.setIfInBounds_toArray, List.set_cons_zero, List.set_cons_succ, i64_w, i32_w]
    rfl
  refine join_ (σ := Value × Value × Nat × Nat) 2 #[true, true, true, true, true, true, true, true, false, false] (fun s => [(8, s.1), (11, s.2.1), (2, .pointer (some ⟨s.2.2.1, 0, none⟩)), (3, .pointer (some ⟨s.2.2.2, 0, none⟩))]) (fun s w' => FX w h w' g #[.slice (some ⟨h, 0, none⟩) 1 1, .slice none 0 0, .string rB] (some s.1) (some s.2.1) (some s.2.2.1) (some s.2.2.2)) ?_ ?_
  rotate_left
  · intro hCont
    refine three_ (i := 2) (j := 6) (k := 7) (Ni := some 8) (Nj := some 2) (Nk := some 3) #[true, true, true, true, true, false, false, false, false, false] #[true, true, false, true, true, false, true, false, false, false] #[true, true, false, true, true, false, false, true, false, false] rfl rfl rfl rfl rfl rfl (by kernel_rfl) (by decide) (by decide) (by decide) (fun K hK => ?_) (fun K hK => ?_) (fun K hK => ?_)
    · skip
      refine goes_ Try.func11 (by kernel_rfl) rfl #[.agg #[.slice (some ⟨h, 0, none⟩) 1 1, .slice none 0 0, .string rB], .agg #[.slice (some ⟨h, 0, none⟩) 1 1, .slice none 0 0, .string rB]] (by rfl) rfl rfl (by simp only [List.map_toArray, List.map_cons, List.map_nil]; rfl) ?_
      with_reducible refine (ofA_calls h _ X0.out.c0).mono ?_
      rintro e w3 ⟨va, rfl, hd, hb⟩
      refine ⟨_, rfl, ?_⟩
      have X1 := Aside0.mk ((X0.out.on hb).set2 (hd.lower X0.out.below.size))
      clear hd hb
      refine hK.out _ _ (X1.out.box) (fun hHeld => ?_)
      clear hK K
      refine norm_ (a' := ?_) ?_ ?_
      rotate_left
      · show Act.put _ (some 8) _ = _
        simp only [Act.put, List.setIfInBounds_toArray, List.set_cons_zero, List.set_cons_succ, i64_w, i32_w]
        rfl
      refine three_ (i := 5) (j := 6) (k := 7) (Ni := some 11) (Nj := some 2) (Nk := some 3) #[true, true, true, true, true, true, false, false, false, false] #[true, true, true, true, true, false, true, false, false, false] #[true, true, true, true, true, false, false, true, false, false] rfl rfl rfl rfl rfl rfl (by kernel_rfl) (by decide) (by decide) (by decide) (fun K hK => ?_) (fun K hK => ?_) (fun K hK => ?_)
      · skip
        refine goes_ Try.func11 (by kernel_rfl) rfl #[.agg #[.slice none 0 0, .slice none 0 0, .string ⟨#[]⟩], .agg #[.slice (some ⟨h, 0, none⟩) 1 1, .slice none 0 0, .string rB]] (by rfl) rfl rfl (by simp only [List.map_toArray, List.map_cons, List.map_nil]; rfl) ?_
        with_reducible refine (ofB_calls h _ X1.out.c0).mono ?_
        rintro e w4 ⟨vb, rfl, hd, hb⟩
        refine ⟨_, rfl, ?_⟩
        have X2 := Aside0.mk ((X1.out.on hb).set5 (hd.lower X1.out.below.size))
        clear hd hb
        refine hK.out _ _ (X2.out.box) (fun hHeld => ?_)
        clear hK K
        refine norm_ (a' := ?_) ?_ ?_
        rotate_left
        · show Act.put _ (some 11) _ = _
          simp only [Act.put, List.setIfInBounds_toArray, List.set_cons_zero, List.set_cons_succ, i64_w, i32_w]
          rfl
        refine two_ (i := 6) (j := 7) (Ni := some 2) (Nj := some 3) #[true, true, true, true, true, true, true, false, false, false] #[true, true, true, true, true, true, false, true, false, false] rfl rfl rfl rfl (by kernel_rfl) (by decide) (by decide) (fun K hK => ?_) (fun K hK => ?_)
        · skip
          refine value_ (w1 := ?_) (v := ?_) (by rfl) rfl ?_ ?_
          rotate_left 2
          · go_simp
            constructor
            · rfl
            · rfl
          have X3 := Aside0.mk (X2.out.alloc6)
          generalize w4.alloc (.cells Try.zeroCells32 32) = w5 at X3 ⊢
          generalize w4.heap.size = k6 at X3 ⊢
          refine hK.out _ _ (X3.out.box) (fun hHeld => ?_)
          clear hK K
          refine norm_ (a' := ?_) ?_ ?_
          rotate_left
          · show Act.put _ (some 2) _ = _
            simp only [Act.put, List.setIfInBounds_toArray, List.set_cons_zero, List.set_cons_succ, i64_w, i32_w]
            rfl
          refine one_ (i := 7) (N := some 3) #[true, true, true, true, true, true, true, true, false, false] rfl rfl (by kernel_rfl) (by decide) (fun K hK => ?_)
          refine value_ (w1 := ?_) (v := ?_) (by rfl) rfl ?_ ?_
          rotate_left 2
          · go_simp
            constructor
            · rfl
            · rfl
          have X4 := Aside0.mk (X3.out.alloc7)
          generalize w5.alloc (.cells Try.zeroCells32 32) = w6 at X4 ⊢
          generalize w5.heap.size = k7 at X4 ⊢
          refine hK.out _ _ (X4.out.box) (fun hHeld => ?_)
          clear hK K
          refine norm_ (a' := ?_) ?_ ?_
          rotate_left
          · show Act.put _ (some 3) _ = _
            simp only [Act.put, List.setIfInBounds_toArray, List.set_cons_zero, List.set_cons_succ, i64_w, i32_w]
            rfl
          exact norm_ (by simp only [putAll, Act.put, List.setIfInBounds_toArray, List.set_cons_zero, List.set_cons_succ, sz]) (hCont ⟨va, vb, k6, k7⟩ _ X4.out)
        · skip
          refine value_ (w1 := ?_) (v := ?_) (by rfl) rfl ?_ ?_
          rotate_left 2
          · go_simp
            constructor
            · rfl
            · rfl
          have X3 := Aside0.mk (X2.out.alloc7)
          generalize w4.alloc (.cells Try.zeroCells32 32) = w5 at X3 ⊢
          generalize w4.heap.size = k7 at X3 ⊢
          refine hK.out _ _ (X3.out.box) (fun hHeld => ?_)
          clear hK K
          refine norm_ (a' := ?_) ?_ ?_
          rotate_left
          · show Act.put _ (some 3) _ = _
            simp only [Act.put, List.setIfInBounds_toArray, List.set_cons_zero, List.set_cons_succ, i64_w, i32_w]
            rfl
          refine one_ (i := 6) (N := some 2) #[true, true, true, true, true, true, true, true, false, false] rfl rfl (by kernel_rfl) (by decide) (fun K hK => ?_)
          refine value_ (w1 := ?_) (v := ?_) (by rfl) rfl ?_ ?_
          rotate_left 2
          · go_simp
            constructor
            · rfl
            · rfl
          have X4 := Aside0.mk (X3.out.alloc6)
          generalize w5.alloc (.cells Try.zeroCells32 32) = w6 at X4 ⊢
          generalize w5.heap.size = k6 at X4 ⊢
          refine hK.out _ _ (X4.out.box) (fun hHeld => ?_)
          clear hK K
          refine norm_ (a' := ?_) ?_ ?_
          rotate_left
          · show Act.put _ (some 2) _ = _
            simp only [Act.put, List.setIfInBounds_toArray, List.set_cons_zero, List.set_cons_succ, i64_w, i32_w]
            rfl
          exact norm_ (by simp only [putAll, Act.put, List.setIfInBounds_toArray, List.set_cons_zero, List.set_cons_succ, sz]) (hCont ⟨va, vb, k6, k7⟩ _ X4.out)
      · skip
        refine value_ (w1 := ?_) (v := ?_) (by rfl) rfl ?_ ?_
        rotate_left 2
        · go_simp
          constructor
          · rfl
          · rfl
        have X2 := Aside0.mk (X1.out.alloc6)
        generalize w3.alloc (.cells Try.zeroCells32 32) = w4 at X2 ⊢
        generalize w3.heap.size = k6 at X2 ⊢
        refine hK.out _ _ (X2.out.box) (fun hHeld => ?_)
        clear hK K
        refine norm_ (a' := ?_) ?_ ?_
        rotate_left
        · show Act.put _ (some 2) _ = _
          simp only [Act.put, List.setIfInBounds_toArray, List.set_cons_zero, List.set_cons_succ, i64_w, i32_w]
          rfl
        refine two_ (i := 5) (j := 7) (Ni := some 11) (Nj := some 3) #[true, true, true, true, true, true, true, false, false, false] #[true, true, true, true, true, false, true, true, false, false] rfl rfl rfl rfl (by kernel_rfl) (by decide) (by decide) (fun K hK => ?_) (fun K hK => ?_)
        · skip
          refine goes_ Try.func11 (by kernel_rfl) rfl #[.agg #[.slice none 0 0, .slice none 0 0, .string ⟨#[]⟩], .agg #[.slice (some ⟨h, 0, none⟩) 1 1, .slice none 0 0, .string rB]] (by rfl) rfl rfl (by simp only [List.map_toArray, List.map_cons, List.map_nil]; rfl) ?_
          with_reducible refine (ofB_calls h _ X2.out.c0).mono ?_
          rintro e w5 ⟨vb, rfl, hd, hb⟩
          refine ⟨_, rfl, ?_⟩
          have X3 := Aside0.mk ((X2.out.on hb).set5 (hd.lower X2.out.below.size))
          clear hd hb
          refine hK.out _ _ (X3.out.box) (fun hHeld => ?_)
          clear hK K
          refine norm_ (a' := ?_) ?_ ?_
          rotate_left
          · show Act.put _ (some 11) _ = _
            simp only [Act.put, List.setIfInBounds_toArray, List.set_cons_zero, List.set_cons_succ, i64_w, i32_w]
            rfl
          refine one_ (i := 7) (N := some 3) #[true, true, true, true, true, true, true, true, false, false] rfl rfl (by kernel_rfl) (by decide) (fun K hK => ?_)
          refine value_ (w1 := ?_) (v := ?_) (by rfl) rfl ?_ ?_
          rotate_left 2
          · go_simp
            constructor
            · rfl
            · rfl
          have X4 := Aside0.mk (X3.out.alloc7)
          generalize w5.alloc (.cells Try.zeroCells32 32) = w6 at X4 ⊢
          generalize w5.heap.size = k7 at X4 ⊢
          refine hK.out _ _ (X4.out.box) (fun hHeld => ?_)
          clear hK K
          refine norm_ (a' := ?_) ?_ ?_
          rotate_left
          · show Act.put _ (some 3) _ = _
            simp only [Act.put, List.setIfInBounds_toArray, List.set_cons_zero, List.set_cons_succ, i64_w, i32_w]
            rfl
          exact norm_ (by simp only [putAll, Act.put, List.setIfInBounds_toArray, List.set_cons_zero, List.set_cons_succ, sz]) (hCont ⟨va, vb, k6, k7⟩ _ X4.out)
        · skip
          refine value_ (w1 := ?_) (v := ?_) (by rfl) rfl ?_ ?_
          rotate_left 2
          · go_simp
            constructor
            · rfl
            · rfl
          have X3 := Aside0.mk (X2.out.alloc7)
          generalize w4.alloc (.cells Try.zeroCells32 32) = w5 at X3 ⊢
          generalize w4.heap.size = k7 at X3 ⊢
          refine hK.out _ _ (X3.out.box) (fun hHeld => ?_)
          clear hK K
          refine norm_ (a' := ?_) ?_ ?_
          rotate_left
          · show Act.put _ (some 3) _ = _
            simp only [Act.put, List.setIfInBounds_toArray, List.set_cons_zero, List.set_cons_succ, i64_w, i32_w]
            rfl
          refine one_ (i := 5) (N := some 11) #[true, true, true, true, true, true, true, true, false, false] rfl rfl (by kernel_rfl) (by decide) (fun K hK => ?_)
          refine goes_ Try.func11 (by kernel_rfl) rfl #[.agg #[.slice none 0 0, .slice none 0 0, .string ⟨#[]⟩], .agg #[.slice (some ⟨h, 0, none⟩) 1 1, .slice none 0 0, .string rB]] (by rfl) rfl rfl (by simp only [List.map_toArray, List.map_cons, List.map_nil]; rfl) ?_
          with_reducible refine (ofB_calls h _ X3.out.c0).mono ?_
          rintro e w6 ⟨vb, rfl, hd, hb⟩
          refine ⟨_, rfl, ?_⟩
          have X4 := Aside0.mk ((X3.out.on hb).set5 (hd.lower X3.out.below.size))
          clear hd hb
          refine hK.out _ _ (X4.out.box) (fun hHeld => ?_)
          clear hK K
          refine norm_ (a' := ?_) ?_ ?_
          rotate_left
          · show Act.put _ (some 11) _ = _
            simp only [Act.put, List.setIfInBounds_toArray, List.set_cons_zero, List.set_cons_succ, i64_w, i32_w]
            rfl
          exact norm_ (by simp only [putAll, Act.put, List.setIfInBounds_toArray, List.set_cons_zero, List.set_cons_succ, sz]) (hCont ⟨va, vb, k6, k7⟩ _ X4.out)
      · skip
        refine value_ (w1 := ?_) (v := ?_) (by rfl) rfl ?_ ?_
        rotate_left 2
        · go_simp
          constructor
          · rfl
          · rfl
        have X2 := Aside0.mk (X1.out.alloc7)
        generalize w3.alloc (.cells Try.zeroCells32 32) = w4 at X2 ⊢
        generalize w3.heap.size = k7 at X2 ⊢
        refine hK.out _ _ (X2.out.box) (fun hHeld => ?_)
        clear hK K
        refine norm_ (a' := ?_) ?_ ?_
        rotate_left
        · show Act.put _ (some 3) _ = _
          simp only [Act.put, List.setIfInBounds_toArray, List.set_cons_zero, List.set_cons_succ, i64_w, i32_w]
          rfl
        refine two_ (i := 5) (j := 6) (Ni := some 11) (Nj := some 2) #[true, true, true, true, true, true, false, true, false, false] #[true, true, true, true, true, false, true, true, false, false] rfl rfl rfl rfl (by kernel_rfl) (by decide) (by decide) (fun K hK => ?_) (fun K hK => ?_)
        · skip
          refine goes_ Try.func11 (by kernel_rfl) rfl #[.agg #[.slice none 0 0, .slice none 0 0, .string ⟨#[]⟩], .agg #[.slice (some ⟨h, 0, none⟩) 1 1, .slice none 0 0, .string rB]] (by rfl) rfl rfl (by simp only [List.map_toArray, List.map_cons, List.map_nil]; rfl) ?_
          with_reducible refine (ofB_calls h _ X2.out.c0).mono ?_
          rintro e w5 ⟨vb, rfl, hd, hb⟩
          refine ⟨_, rfl, ?_⟩
          have X3 := Aside0.mk ((X2.out.on hb).set5 (hd.lower X2.out.below.size))
          clear hd hb
          refine hK.out _ _ (X3.out.box) (fun hHeld => ?_)
          clear hK K
          refine norm_ (a' := ?_) ?_ ?_
          rotate_left
          · show Act.put _ (some 11) _ = _
            simp only [Act.put, List.setIfInBounds_toArray, List.set_cons_zero, List.set_cons_succ, i64_w, i32_w]
            rfl
          refine one_ (i := 6) (N := some 2) #[true, true, true, true, true, true, true, true, false, false] rfl rfl (by kernel_rfl) (by decide) (fun K hK => ?_)
          refine value_ (w1 := ?_) (v := ?_) (by rfl) rfl ?_ ?_
          rotate_left 2
          · go_simp
            constructor
            · rfl
            · rfl
          have X4 := Aside0.mk (X3.out.alloc6)
          generalize w5.alloc (.cells Try.zeroCells32 32) = w6 at X4 ⊢
          generalize w5.heap.size = k6 at X4 ⊢
          refine hK.out _ _ (X4.out.box) (fun hHeld => ?_)
          clear hK K
          refine norm_ (a' := ?_) ?_ ?_
          rotate_left
          · show Act.put _ (some 2) _ = _
            simp only [Act.put, List.setIfInBounds_toArray, List.set_cons_zero, List.set_cons_succ, i64_w, i32_w]
            rfl
          exact norm_ (by simp only [putAll, Act.put, List.setIfInBounds_toArray, List.set_cons_zero, List.set_cons_succ, sz]) (hCont ⟨va, vb, k6, k7⟩ _ X4.out)
        · skip
          refine value_ (w1 := ?_) (v := ?_) (by rfl) rfl ?_ ?_
          rotate_left 2
          · go_simp
            constructor
            · rfl
            · rfl
          have X3 := Aside0.mk (X2.out.alloc6)
          generalize w4.alloc (.cells Try.zeroCells32 32) = w5 at X3 ⊢
          generalize w4.heap.size = k6 at X3 ⊢
          refine hK.out _ _ (X3.out.box) (fun hHeld => ?_)
          clear hK K
          refine norm_ (a' := ?_) ?_ ?_
          rotate_left
          · show Act.put _ (some 2) _ = _
            simp only [Act.put, List.setIfInBounds_toArray, List.set_cons_zero, List.set_cons_succ, i64_w, i32_w]
            rfl
          refine one_ (i := 5) (N := some 11) #[true, true, true, true, true, true, true, true, false, false] rfl rfl (by kernel_rfl) (by decide) (fun K hK => ?_)
          refine goes_ Try.func11 (by kernel_rfl) rfl #[.agg #[.slice none 0 0, .slice none 0 0, .string ⟨#[]⟩], .agg #[.slice (some ⟨h, 0, none⟩) 1 1, .slice none 0 0, .string rB]] (by rfl) rfl rfl (by simp only [List.map_toArray, List.map_cons, List.map_nil]; rfl) ?_
          with_reducible refine (ofB_calls h _ X3.out.c0).mono ?_
          rintro e w6 ⟨vb, rfl, hd, hb⟩
          refine ⟨_, rfl, ?_⟩
          have X4 := Aside0.mk ((X3.out.on hb).set5 (hd.lower X3.out.below.size))
          clear hd hb
          refine hK.out _ _ (X4.out.box) (fun hHeld => ?_)
          clear hK K
          refine norm_ (a' := ?_) ?_ ?_
          rotate_left
          · show Act.put _ (some 11) _ = _
            simp only [Act.put, List.setIfInBounds_toArray, List.set_cons_zero, List.set_cons_succ, i64_w, i32_w]
            rfl
          exact norm_ (by simp only [putAll, Act.put, List.setIfInBounds_toArray, List.set_cons_zero, List.set_cons_succ, sz]) (hCont ⟨va, vb, k6, k7⟩ _ X4.out)
    · skip
      refine value_ (w1 := ?_) (v := ?_) (by rfl) rfl ?_ ?_
      rotate_left 2
      · go_simp
        constructor
        · rfl
        · rfl
      have X1 := Aside0.mk (X0.out.alloc6)
      generalize wd.alloc (.cells Try.zeroCells32 32) = w3 at X1 ⊢
      generalize wd.heap.size = k6 at X1 ⊢
      refine hK.out _ _ (X1.out.box) (fun hHeld => ?_)
      clear hK K
      refine norm_ (a' := ?_) ?_ ?_
      rotate_left
      · show Act.put _ (some 2) _ = _
        simp only [Act.put, List.setIfInBounds_toArray, List.set_cons_zero, List.set_cons_succ, i64_w, i32_w]
        rfl
      refine two_ (i := 2) (j := 7) (Ni := some 8) (Nj := some 3) #[true, true, true, true, true, false, true, false, false, false] #[true, true, false, true, true, false, true, true, false, false] rfl rfl rfl rfl (by kernel_rfl) (by decide) (by decide) (fun K hK => ?_) (fun K hK => ?_)
      · skip
        refine goes_ Try.func11 (by kernel_rfl) rfl #[.agg #[.slice (some ⟨h, 0, none⟩) 1 1, .slice none 0 0, .string rB], .agg #[.slice (some ⟨h, 0, none⟩) 1 1, .slice none 0 0, .string rB]] (by rfl) rfl rfl (by simp only [List.map_toArray, List.map_cons, List.map_nil]; rfl) ?_
        with_reducible refine (ofA_calls h _ X1.out.c0).mono ?_
        rintro e w4 ⟨va, rfl, hd, hb⟩
        refine ⟨_, rfl, ?_⟩
        have X2 := Aside0.mk ((X1.out.on hb).set2 (hd.lower X1.out.below.size))
        clear hd hb
        refine hK.out _ _ (X2.out.box) (fun hHeld => ?_)
        clear hK K
        refine norm_ (a' := ?_) ?_ ?_
        rotate_left
        · show Act.put _ (some 8) _ = _
          simp only [Act.put, List.setIfInBounds_toArray, List.set_cons_zero, List.set_cons_succ, i64_w, i32_w]
          rfl
        refine two_ (i := 5) (j := 7) (Ni := some 11) (Nj := some 3) #[true, true, true, true, true, true, true, false, false, false] #[true, true, true, true, true, false, true, true, false, false] rfl rfl rfl rfl (by kernel_rfl) (by decide) (by decide) (fun K hK => ?_) (fun K hK => ?_)
        · skip
          refine goes_ Try.func11 (by kernel_rfl) rfl #[.agg #[.slice none 0 0, .slice none 0 0, .string ⟨#[]⟩], .agg #[.slice (some ⟨h, 0, none⟩) 1 1, .slice none 0 0, .string rB]] (by rfl) rfl rfl (by simp only [List.map_toArray, List.map_cons, List.map_nil]; rfl) ?_
          with_reducible refine (ofB_calls h _ X2.out.c0).mono ?_
          rintro e w5 ⟨vb, rfl, hd, hb⟩
          refine ⟨_, rfl, ?_⟩
          have X3 := Aside0.mk ((X2.out.on hb).set5 (hd.lower X2.out.below.size))
          clear hd hb
          refine hK.out _ _ (X3.out.box) (fun hHeld => ?_)
          clear hK K
          refine norm_ (a' := ?_) ?_ ?_
          rotate_left
          · show Act.put _ (some 11) _ = _
            simp only [Act.put, List.setIfInBounds_toArray, List.set_cons_zero, List.set_cons_succ, i64_w, i32_w]
            rfl
          refine one_ (i := 7) (N := some 3) #[true, true, true, true, true, true, true, true, false, false] rfl rfl (by kernel_rfl) (by decide) (fun K hK => ?_)
          refine value_ (w1 := ?_) (v := ?_) (by rfl) rfl ?_ ?_
          rotate_left 2
          · go_simp
            constructor
            · rfl
            · rfl
          have X4 := Aside0.mk (X3.out.alloc7)
          generalize w5.alloc (.cells Try.zeroCells32 32) = w6 at X4 ⊢
          generalize w5.heap.size = k7 at X4 ⊢
          refine hK.out _ _ (X4.out.box) (fun hHeld => ?_)
          clear hK K
          refine norm_ (a' := ?_) ?_ ?_
          rotate_left
          · show Act.put _ (some 3) _ = _
            simp only [Act.put, List.setIfInBounds_toArray, List.set_cons_zero, List.set_cons_succ, i64_w, i32_w]
            rfl
          exact norm_ (by simp only [putAll, Act.put, List.setIfInBounds_toArray, List.set_cons_zero, List.set_cons_succ, sz]) (hCont ⟨va, vb, k6, k7⟩ _ X4.out)
        · skip
          refine value_ (w1 := ?_) (v := ?_) (by rfl) rfl ?_ ?_
          rotate_left 2
          · go_simp
            constructor
            · rfl
            · rfl
          have X3 := Aside0.mk (X2.out.alloc7)
          generalize w4.alloc (.cells Try.zeroCells32 32) = w5 at X3 ⊢
          generalize w4.heap.size = k7 at X3 ⊢
          refine hK.out _ _ (X3.out.box) (fun hHeld => ?_)
          clear hK K
          refine norm_ (a' := ?_) ?_ ?_
          rotate_left
          · show Act.put _ (some 3) _ = _
            simp only [Act.put, List.setIfInBounds_toArray, List.set_cons_zero, List.set_cons_succ, i64_w, i32_w]
            rfl
          refine one_ (i := 5) (N := some 11) #[true, true, true, true, true, true, true, true, false, false] rfl rfl (by kernel_rfl) (by decide) (fun K hK => ?_)
          refine goes_ Try.func11 (by kernel_rfl) rfl #[.agg #[.slice none 0 0, .slice none 0 0, .string ⟨#[]⟩], .agg #[.slice (some ⟨h, 0, none⟩) 1 1, .slice none 0 0, .string rB]] (by rfl) rfl rfl (by simp only [List.map_toArray, List.map_cons, List.map_nil]; rfl) ?_
          with_reducible refine (ofB_calls h _ X3.out.c0).mono ?_
          rintro e w6 ⟨vb, rfl, hd, hb⟩
          refine ⟨_, rfl, ?_⟩
          have X4 := Aside0.mk ((X3.out.on hb).set5 (hd.lower X3.out.below.size))
          clear hd hb
          refine hK.out _ _ (X4.out.box) (fun hHeld => ?_)
          clear hK K
          refine norm_ (a' := ?_) ?_ ?_
          rotate_left
          · show Act.put _ (some 11) _ = _
            simp only [Act.put, List.setIfInBounds_toArray, List.set_cons_zero, List.set_cons_succ, i64_w, i32_w]
            rfl
          exact norm_ (by simp only [putAll, Act.put, List.setIfInBounds_toArray, List.set_cons_zero, List.set_cons_succ, sz]) (hCont ⟨va, vb, k6, k7⟩ _ X4.out)
      · skip
        refine value_ (w1 := ?_) (v := ?_) (by rfl) rfl ?_ ?_
        rotate_left 2
        · go_simp
          constructor
          · rfl
          · rfl
        have X2 := Aside0.mk (X1.out.alloc7)
        generalize w3.alloc (.cells Try.zeroCells32 32) = w4 at X2 ⊢
        generalize w3.heap.size = k7 at X2 ⊢
        refine hK.out _ _ (X2.out.box) (fun hHeld => ?_)
        clear hK K
        refine norm_ (a' := ?_) ?_ ?_
        rotate_left
        · show Act.put _ (some 3) _ = _
          simp only [Act.put, List.setIfInBounds_toArray, List.set_cons_zero, List.set_cons_succ, i64_w, i32_w]
          rfl
        refine one_ (i := 2) (N := some 8) #[true, true, true, true, true, false, true, true, false, false] rfl rfl (by kernel_rfl) (by decide) (fun K hK => ?_)
        refine goes_ Try.func11 (by kernel_rfl) rfl #[.agg #[.slice (some ⟨h, 0, none⟩) 1 1, .slice none 0 0, .string rB], .agg #[.slice (some ⟨h, 0, none⟩) 1 1, .slice none 0 0, .string rB]] (by rfl) rfl rfl (by simp only [List.map_toArray, List.map_cons, List.map_nil]; rfl) ?_
        with_reducible refine (ofA_calls h _ X2.out.c0).mono ?_
        rintro e w5 ⟨va, rfl, hd, hb⟩
        refine ⟨_, rfl, ?_⟩
        have X3 := Aside0.mk ((X2.out.on hb).set2 (hd.lower X2.out.below.size))
        clear hd hb
        refine hK.out _ _ (X3.out.box) (fun hHeld => ?_)
        clear hK K
        refine norm_ (a' := ?_) ?_ ?_
        rotate_left
        · show Act.put _ (some 8) _ = _
          simp only [Act.put, List.setIfInBounds_toArray, List.set_cons_zero, List.set_cons_succ, i64_w, i32_w]
          rfl
        refine one_ (i := 5) (N := some 11) #[true, true, true, true, true, true, true, true, false, false] rfl rfl (by kernel_rfl) (by decide) (fun K hK => ?_)
        refine goes_ Try.func11 (by kernel_rfl) rfl #[.agg #[.slice none 0 0, .slice none 0 0, .string ⟨#[]⟩], .agg #[.slice (some ⟨h, 0, none⟩) 1 1, .slice none 0 0, .string rB]] (by rfl) rfl rfl (by simp only [List.map_toArray, List.map_cons, List.map_nil]; rfl) ?_
        with_reducible refine (ofB_calls h _ X3.out.c0).mono ?_
        rintro e w6 ⟨vb, rfl, hd, hb⟩
        refine ⟨_, rfl, ?_⟩
        have X4 := Aside0.mk ((X3.out.on hb).set5 (hd.lower X3.out.below.size))
        clear hd hb
        refine hK.out _ _ (X4.out.box) (fun hHeld => ?_)
        clear hK K
        refine norm_ (a' := ?_) ?_ ?_
        rotate_left
        · show Act.put _ (some 11) _ = _
          simp only [Act.put, List.setIfInBounds_toArray, List.set_cons_zero, List.set_cons_succ, i64_w, i32_w]
          rfl
        exact norm_ (by simp only [putAll, Act.put, List.setIfInBounds_toArray, List.set_cons_zero, List.set_cons_succ, sz]) (hCont ⟨va, vb, k6, k7⟩ _ X4.out)
    · skip
      refine value_ (w1 := ?_) (v := ?_) (by rfl) rfl ?_ ?_
      rotate_left 2
      · go_simp
        constructor
        · rfl
        · rfl
      have X1 := Aside0.mk (X0.out.alloc7)
      generalize wd.alloc (.cells Try.zeroCells32 32) = w3 at X1 ⊢
      generalize wd.heap.size = k7 at X1 ⊢
      refine hK.out _ _ (X1.out.box) (fun hHeld => ?_)
      clear hK K
      refine norm_ (a' := ?_) ?_ ?_
      rotate_left
      · show Act.put _ (some 3) _ = _
        simp only [Act.put, List.setIfInBounds_toArray, List.set_cons_zero, List.set_cons_succ, i64_w, i32_w]
        rfl
      refine two_ (i := 2) (j := 6) (Ni := some 8) (Nj := some 2) #[true, true, true, true, true, false, false, true, false, false] #[true, true, false, true, true, false, true, true, false, false] rfl rfl rfl rfl (by kernel_rfl) (by decide) (by decide) (fun K hK => ?_) (fun K hK => ?_)
      · skip
        refine goes_ Try.func11 (by kernel_rfl) rfl #[.agg #[.slice (some ⟨h, 0, none⟩) 1 1, .slice none 0 0, .string rB], .agg #[.slice (some ⟨h, 0, none⟩) 1 1, .slice none 0 0, .string rB]] (by rfl) rfl rfl (by simp only [List.map_toArray, List.map_cons, List.map_nil]; rfl) ?_
        with_reducible refine (ofA_calls h _ X1.out.c0).mono ?_
        rintro e w4 ⟨va, rfl, hd, hb⟩
        refine ⟨_, rfl, ?_⟩
        have X2 := Aside0.mk ((X1.out.on hb).set2 (hd.lower X1.out.below.size))
        clear hd hb
        refine hK.out _ _ (X2.out.box) (fun hHeld => ?_)
        clear hK K
        refine norm_ (a' := ?_) ?_ ?_
        rotate_left
        · show Act.put _ (some 8) _ = _
          simp only [Act.put, List.setIfInBounds_toArray, List.set_cons_zero, List.set_cons_succ, i64_w, i32_w]
          rfl
        refine two_ (i := 5) (j := 6) (Ni := some 11) (Nj := some 2) #[true, true, true, true, true, true, false, true, false, false] #[true, true, true, true, true, false, true, true, false, false] rfl rfl rfl rfl (by kernel_rfl) (by decide) (by decide) (fun K hK => ?_) (fun K hK => ?_)
        · skip
          refine goes_ Try.func11 (by kernel_rfl) rfl #[.agg #[.slice none 0 0, .slice none 0 0, .string ⟨#[]⟩], .agg #[.slice (some ⟨h, 0, none⟩) 1 1, .slice none 0 0, .string rB]] (by rfl) rfl rfl (by simp only [List.map_toArray, List.map_cons, List.map_nil]; rfl) ?_
          with_reducible refine (ofB_calls h _ X2.out.c0).mono ?_
          rintro e w5 ⟨vb, rfl, hd, hb⟩
          refine ⟨_, rfl, ?_⟩
          have X3 := Aside0.mk ((X2.out.on hb).set5 (hd.lower X2.out.below.size))
          clear hd hb
          refine hK.out _ _ (X3.out.box) (fun hHeld => ?_)
          clear hK K
          refine norm_ (a' := ?_) ?_ ?_
          rotate_left
          · show Act.put _ (some 11) _ = _
            simp only [Act.put, List.setIfInBounds_toArray, List.set_cons_zero, List.set_cons_succ, i64_w, i32_w]
            rfl
          refine one_ (i := 6) (N := some 2) #[true, true, true, true, true, true, true, true, false, false] rfl rfl (by kernel_rfl) (by decide) (fun K hK => ?_)
          refine value_ (w1 := ?_) (v := ?_) (by rfl) rfl ?_ ?_
          rotate_left 2
          · go_simp
            constructor
            · rfl
            · rfl
          have X4 := Aside0.mk (X3.out.alloc6)
          generalize w5.alloc (.cells Try.zeroCells32 32) = w6 at X4 ⊢
          generalize w5.heap.size = k6 at X4 ⊢
          refine hK.out _ _ (X4.out.box) (fun hHeld => ?_)
          clear hK K
          refine norm_ (a' := ?_) ?_ ?_
          rotate_left
          · show Act.put _ (some 2) _ = _
            simp only [Act.put, List.setIfInBounds_toArray, List.set_cons_zero, List.set_cons_succ, i64_w, i32_w]
            rfl
          exact norm_ (by simp only [putAll, Act.put, List.setIfInBounds_toArray, List.set_cons_zero, List.set_cons_succ, sz]) (hCont ⟨va, vb, k6, k7⟩ _ X4.out)
        · skip
          refine value_ (w1 := ?_) (v := ?_) (by rfl) rfl ?_ ?_
          rotate_left 2
          · go_simp
            constructor
            · rfl
            · rfl
          have X3 := Aside0.mk (X2.out.alloc6)
          generalize w4.alloc (.cells Try.zeroCells32 32) = w5 at X3 ⊢
          generalize w4.heap.size = k6 at X3 ⊢
          refine hK.out _ _ (X3.out.box) (fun hHeld => ?_)
          clear hK K
          refine norm_ (a' := ?_) ?_ ?_
          rotate_left
          · show Act.put _ (some 2) _ = _
            simp only [Act.put, List.setIfInBounds_toArray, List.set_cons_zero, List.set_cons_succ, i64_w, i32_w]
            rfl
          refine one_ (i := 5) (N := some 11) #[true, true, true, true, true, true, true, true, false, false] rfl rfl (by kernel_rfl) (by decide) (fun K hK => ?_)
          refine goes_ Try.func11 (by kernel_rfl) rfl #[.agg #[.slice none 0 0, .slice none 0 0, .string ⟨#[]⟩], .agg #[.slice (some ⟨h, 0, none⟩) 1 1, .slice none 0 0, .string rB]] (by rfl) rfl rfl (by simp only [List.map_toArray, List.map_cons, List.map_nil]; rfl) ?_
          with_reducible refine (ofB_calls h _ X3.out.c0).mono ?_
          rintro e w6 ⟨vb, rfl, hd, hb⟩
          refine ⟨_, rfl, ?_⟩
          have X4 := Aside0.mk ((X3.out.on hb).set5 (hd.lower X3.out.below.size))
          clear hd hb
          refine hK.out _ _ (X4.out.box) (fun hHeld => ?_)
          clear hK K
          refine norm_ (a' := ?_) ?_ ?_
          rotate_left
          · show Act.put _ (some 11) _ = _
            simp only [Act.put, List.setIfInBounds_toArray, List.set_cons_zero, List.set_cons_succ, i64_w, i32_w]
            rfl
          exact norm_ (by simp only [putAll, Act.put, List.setIfInBounds_toArray, List.set_cons_zero, List.set_cons_succ, sz]) (hCont ⟨va, vb, k6, k7⟩ _ X4.out)
      · skip
        refine value_ (w1 := ?_) (v := ?_) (by rfl) rfl ?_ ?_
        rotate_left 2
        · go_simp
          constructor
          · rfl
          · rfl
        have X2 := Aside0.mk (X1.out.alloc6)
        generalize w3.alloc (.cells Try.zeroCells32 32) = w4 at X2 ⊢
        generalize w3.heap.size = k6 at X2 ⊢
        refine hK.out _ _ (X2.out.box) (fun hHeld => ?_)
        clear hK K
        refine norm_ (a' := ?_) ?_ ?_
        rotate_left
        · show Act.put _ (some 2) _ = _
          simp only [Act.put, List.setIfInBounds_toArray, List.set_cons_zero, List.set_cons_succ, i64_w, i32_w]
          rfl
        refine one_ (i := 2) (N := some 8) #[true, true, true, true, true, false, true, true, false, false] rfl rfl (by kernel_rfl) (by decide) (fun K hK => ?_)
        refine goes_ Try.func11 (by kernel_rfl) rfl #[.agg #[.slice (some ⟨h, 0, none⟩) 1 1, .slice none 0 0, .string rB], .agg #[.slice (some ⟨h, 0, none⟩) 1 1, .slice none 0 0, .string rB]] (by rfl) rfl rfl (by simp only [List.map_toArray, List.map_cons, List.map_nil]; rfl) ?_
        with_reducible refine (ofA_calls h _ X2.out.c0).mono ?_
        rintro e w5 ⟨va, rfl, hd, hb⟩
        refine ⟨_, rfl, ?_⟩
        have X3 := Aside0.mk ((X2.out.on hb).set2 (hd.lower X2.out.below.size))
        clear hd hb
        refine hK.out _ _ (X3.out.box) (fun hHeld => ?_)
        clear hK K
        refine norm_ (a' := ?_) ?_ ?_
        rotate_left
        · show Act.put _ (some 8) _ = _
          simp only [Act.put, List.setIfInBounds_toArray, List.set_cons_zero, List.set_cons_succ, i64_w, i32_w]
          rfl
        refine one_ (i := 5) (N := some 11) #[true, true, true, true, true, true, true, true, false, false] rfl rfl (by kernel_rfl) (by decide) (fun K hK => ?_)
        refine goes_ Try.func11 (by kernel_rfl) rfl #[.agg #[.slice none 0 0, .slice none 0 0, .string ⟨#[]⟩], .agg #[.slice (some ⟨h, 0, none⟩) 1 1, .slice none 0 0, .string rB]] (by rfl) rfl rfl (by simp only [List.map_toArray, List.map_cons, List.map_nil]; rfl) ?_
        with_reducible refine (ofB_calls h _ X3.out.c0).mono ?_
        rintro e w6 ⟨vb, rfl, hd, hb⟩
        refine ⟨_, rfl, ?_⟩
        have X4 := Aside0.mk ((X3.out.on hb).set5 (hd.lower X3.out.below.size))
        clear hd hb
        refine hK.out _ _ (X4.out.box) (fun hHeld => ?_)
        clear hK K
        refine norm_ (a' := ?_) ?_ ?_
        rotate_left
        · show Act.put _ (some 11) _ = _
          simp only [Act.put, List.setIfInBounds_toArray, List.set_cons_zero, List.set_cons_succ, i64_w, i32_w]
          rfl
        exact norm_ (by simp only [putAll, Act.put, List.setIfInBounds_toArray, List.set_cons_zero, List.set_cons_succ, sz]) (hCont ⟨va, vb, k6, k7⟩ _ X4.out)
  rintro ⟨v2, v5, g6, g7⟩ w9 hX
  replace hX : FX w h w9 g #[.slice (some ⟨h, 0, none⟩) 1 1, .slice none 0 0, .string rB] (some v2) (some v5) (some g6) (some g7) := hX
  have hHeld : Blk w9 g 24 #[.slice (some ⟨h, 0, none⟩) 1 1, .slice none 0 0, .string rB] := hX.box
  obtain ⟨L2, M2, hL2, hM2, P1, p1, P2, p2, ev2, C21, C22⟩ := hX.d2 _ rfl
  obtain ⟨L5, M5, hL5, hM5, Q1, q1, Q2, q2, ev5, C51, C52⟩ := hX.d5 _ rfl
  subst ev2 ev5
  refine norm_ (a' := ?_) ?_ ?_
  rotate_left
  · simp only [putAll, Act.put, List.setIfInBounds_toArray, List.set_cons_zero, List.set_cons_succ]
    rfl
  refine last_ (i := 8) (N := none) #[true, true, true, true, true, true, true, true, true, false] rfl rfl (by kernel_rfl) (by decide) (fun K hK => ?_)
  refine skip_ (w1 := w9.setRow g6 (dArr L2 (.slice P1 ([] : List S36).length p1) (.slice P2 ([] : List S36).length p2) rB M2)) (by rfl) rfl ?_ ?_
  · exact row_stores 32 (.tmp 2) (.tmp 8) rfl g6 _ rfl rfl (hX.a6 _ rfl).1 (by rw [dArr_size hL2 hM2]; kernel_rfl) (by rw [dArr_size hL2 hM2, dArr_size (outL_len _ _) (outL_len _ _)]) (dArr_one _ _ _ _ _ _ _ _ _)
  refine hK.out _ _ ?_
  clear hK K
  refine last_ (i := 9) (N := none) #[true, true, true, true, true, true, true, true, true, true] rfl rfl (by kernel_rfl) (by decide) (fun K hK => ?_)
  refine skip_ (w1 := (w9.setRow g6 (dArr L2 (.slice P1 ([] : List S36).length p1) (.slice P2 ([] : List S36).length p2) rB M2)).setRow g7 (dArr L5 (.slice Q1 [(⟨0, xB⟩ : S36)].length q1) (.slice Q2 ([] : List S36).length q2) rB M5)) (by rfl) rfl ?_ ?_
  · exact row_stores 32 (.tmp 3) (.tmp 11) rfl g7 _ rfl rfl ((hX.a7 _ rfl).1.setRow_far (hX.ne _ _ rfl rfl).symm _) (by rw [dArr_size hL5 hM5]; kernel_rfl) (by rw [dArr_size hL5 hM5, dArr_size (outL_len _ _) (outL_len _ _)]) (dArr_one _ _ _ _ _ _ _ _ _)
  refine hK.out _ _ ?_
  clear hK K
  refine done_ (by kernel_rfl) ?_

  have Bd := ((hX.a6 _ rfl).1.setRow_ (dArr L2 (.slice P1 ([] : List S36).length p1) (.slice P2 ([] : List S36).length p2) rB M2)).setRow_far (k := g7) (hX.ne _ _ rfl rfl) (dArr L5 (.slice Q1 [(⟨0, xB⟩ : S36)].length q1) (.slice Q2 ([] : List S36).length q2) rB M5)
  have Be := ((hX.a7 _ rfl).1.setRow_far (k := g6) (hX.ne _ _ rfl rfl).symm (dArr L2 (.slice P1 ([] : List S36).length p1) (.slice P2 ([] : List S36).length p2) rB M2)).setRow_ (dArr L5 (.slice Q1 [(⟨0, xB⟩ : S36)].length q1) (.slice Q2 ([] : List S36).length q2) rB M5)
  have R5 := R_setRowT (R_setRowT C51 (hX.a6 _ rfl).1 (by decide) (dArr L2 (.slice P1 ([] : List S36).length p1) (.slice P2 ([] : List S36).length p2) rB M2)) ((hX.a7 _ rfl).1.setRow_far (k := g6) (hX.ne _ _ rfl rfl).symm (dArr L2 (.slice P1 ([] : List S36).length p1) (.slice P2 ([] : List S36).length p2) rB M2)) (by decide) (dArr L5 (.slice Q1 [(⟨0, xB⟩ : S36)].length q1) (.slice Q2 ([] : List S36).length q2) rB M5)
  have WZ := below_setRow' (below_setRow' hX.below (show w.heap.size ≤ g6 by have := (hX.a6 _ rfl).2; have := hX.low; omega) (dArr L2 (.slice P1 ([] : List S36).length p1) (.slice P2 ([] : List S36).length p2) rB M2)) (show w.heap.size ≤ g7 by have := (hX.a7 _ rfl).2; have := hX.low; omega) (dArr L5 (.slice Q1 [(⟨0, xB⟩ : S36)].length q1) (.slice Q2 ([] : List S36).length q2) rB M5)
  generalize (w9.setRow g6 (dArr L2 (.slice P1 ([] : List S36).length p1) (.slice P2 ([] : List S36).length p2) rB M2)).setRow g7 (dArr L5 (.slice Q1 [(⟨0, xB⟩ : S36)].length q1) (.slice Q2 ([] : List S36).length q2) rB M5) = wz at Bd Be R5 WZ ⊢
  have d1 := (Bd.cell 32).trans (dArr_f1 hL2)
  have d2 := (Bd.cell 33).trans (dArr_f2 hL2)
  have e1 := (Be.cell 32).trans (dArr_f1 hL5)
  obtain ⟨ad, ea, x1, x2⟩ := at_T36 (Kd.R_reads' R5).2.2 0 (by decide) (by decide)
  clear hX hHeld C51 C52 C21 C22 Bd Be R5
  cases ea
  replace x1 : wz.cell? ad = some (.int .i64 0) := by simpa [rd_T36, show ad.add 0 = ad by simp [Addr.add]] using x1
  replace x2 : wz.cell? ⟨ad.block, ad.off + 1, none⟩ = some (.string ⟨#[120]⟩) := by simpa [rd_T36, xB, show ad.add 0 = ad by simp [Addr.add]] using x2
  go_wp2_with fail
  go_ret
  exact ⟨rfl, WZ⟩
end Go.Proofs.Ytoljjgabgdifbaa.H


namespace Go.Proofs.Ytoljjgabgdifbaa.H
open Go.RowKit Go.Proofs.YtoljjgabgdifbaaW.PrintWords Go.Proofs.YtoljjgabgdifbaaW.PrintLast Go.Proofs.YtoljjgabgdifbaaW.PrintMore
set_option linter.unusedVariables false
set_option linter.unusedSimpArgs false

def at_ (x : List ByteArray) (i : Nat) : ByteArray := x.getD i ByteArray.empty
theorem wrap_succ {i n : Nat} (h : i < n) (hn : n ≤ 5864062014805) : wrap64 ((i : Int) + 1) = ((i + 1 : Nat) : Int) := by
  rw [← i64_w, IntWalk.i64_in _ (by omega)]
  omega
theorem rdOf_at (x : List ByteArray) (i : Nat) : rdOf ByteArray.empty x (i : Int) = at_ x i := by simp [rdOf, at_]
theorem size_some (l : List ByteArray) (hl : l.length ≤ 5864062014805) : ∀ (d i k : Nat) (n : Int), i + d = l.length → d < k → ∃ r, hibernaclelaw35_size.l0 k n l (l.length : Int) (i : Int) = some r
  | 0, i, k, n, h, hk => by
    obtain ⟨k, rfl⟩ : ∃ m, k = m + 1 := ⟨k - 1, by omega⟩
    rw [hibernaclelaw35_size.l0, if_neg (by omega)]
    exact ⟨_, rfl⟩
  | d + 1, i, k, n, h, hk => by
    obtain ⟨k, rfl⟩ : ∃ m, k = m + 1 := ⟨k - 1, by omega⟩
    rw [hibernaclelaw35_size.l0, if_pos (by omega), if_pos (by omega), if_pos (by omega), wrap_succ (show i < l.length by omega) hl]
    exact size_some l hl d (i + 1) k _ (by omega) (by omega)
theorem great_some (m : Nat) (l : List S24) (hl : l.length ≤ 5864062014805) (hm : ∀ x ∈ l, x.f0.length ≤ m ∧ x.f1.length ≤ m) (hmm : m ≤ 5864062014805) : ∀ (d i k : Nat) (n : Int), i + d = l.length → d + m + 1 < k → ∃ r, hibernaclelaw35_great.l0 k n l (l.length : Int) (i : Int) = some r
  | 0, i, k, n, h, hk => by
    obtain ⟨k, rfl⟩ : ∃ m, k = m + 1 := ⟨k - 1, by omega⟩
    rw [hibernaclelaw35_great.l0, if_neg (by omega)]
    exact ⟨_, rfl⟩
  | d + 1, i, k, n, h, hk => by
    obtain ⟨k, rfl⟩ : ∃ m, k = m + 1 := ⟨k - 1, by omega⟩
    rw [hibernaclelaw35_great.l0, if_pos (by omega), if_pos (by omega), if_pos (by omega), wrap_succ (show i < l.length by omega) hl]
    have hx := hm (rd_T24 l (i : Int)) (by
      have : rd_T24 l (i : Int) = l[i]'(by omega) := by simp [rd_T24, List.getD_eq_getElem?_getD, List.getElem?_eq_getElem (show i < l.length by omega)]
      rw [this]
      exact List.getElem_mem _)
    obtain ⟨r1, h1⟩ := size_some (rd_T24 l (i : Int)).f0 (by omega) (rd_T24 l (i : Int)).f0.length 0 k 0 (by omega) (by omega)
    obtain ⟨r2, h2⟩ := size_some (rd_T24 l (i : Int)).f1 (by omega) (rd_T24 l (i : Int)).f1.length 0 k 0 (by omega) (by omega)
    have g1 : hibernaclelaw35_size.f k (rd_T24 l (i : Int)).f0 = some r1 := h1
    have g2 : hibernaclelaw35_size.f k (rd_T24 l (i : Int)).f1 = some r2 := h2
    rw [g1, Option.bind_some, g2, Option.bind_some]
    exact great_some m l hl hm hmm d (i + 1) k _ (by omega) (by omega)
theorem great_f (m : Nat) (l : List S24) (hl : l.length ≤ 5864062014805) (hm : ∀ x ∈ l, x.f0.length ≤ m ∧ x.f1.length ≤ m) (hmm : m ≤ 5864062014805) : ∃ k r, hibernaclelaw35_great.f k l = some r := by
  obtain ⟨r, h⟩ := great_some m l hl hm hmm l.length 0 (l.length + m + 2) 0 (by omega) (by omega)
  exact ⟨_, r, h⟩
end Go.Proofs.Ytoljjgabgdifbaa.H


namespace Go.Proofs.Ytoljjgabgdifbaa.H
open Go.RowKit Go.Proofs.YtoljjgabgdifbaaW.PrintWords Go.Proofs.YtoljjgabgdifbaaW.PrintLast Go.Proofs.YtoljjgabgdifbaaW.PrintMore
set_option linter.unusedVariables false
set_option linter.unusedSimpArgs false

/-- A digest's numbers. -/
structure Dig (L : List Int) : Prop where
  len : L.length = 32
  rg : ∀ v ∈ L, 0 ≤ v ∧ v < 256
theorem outL_dig (h : List Int) : Dig (outL h 32) := by
  refine ⟨outL_len _ _, fun v hv => ?_⟩
  simp only [outL, List.mem_map] at hv
  obtain ⟨i, _, rfl⟩ := hv
  split
  · unfold outAt
    omega
  · omega
theorem sumL_dig (s : ByteArray) : Dig (sumL s) := outL_dig _
theorem imgSum_dig (f0 f1 : List ByteArray) (s : ByteArray) : Dig (imgSum f0 f1 s) := sumL_dig _
def byteL (L : List Int) : List UInt8 := L.map fun n => UInt8.ofNat n.toNat
theorem byteL_cells {L : List Int} (h : ∀ v ∈ L, 0 ≤ v ∧ v < 256) : nums .u8 L = (byteL L).map Extern.Stop.cell := by
  simp only [nums, byteL, List.map_map]
  apply List.map_congr_left
  intro v hv
  have := h v hv
  simp only [Function.comp, Extern.Stop.cell, UInt8.toNat_ofNat']
  rw [show Int.ofNat (v.toNat % 2 ^ 8) = v from by show ((v.toNat % 2 ^ 8 : Nat) : Int) = v; omega]
theorem byteL_inj {L M : List Int} (hL : ∀ v ∈ L, 0 ≤ v ∧ v < 256) (hM : ∀ v ∈ M, 0 ≤ v ∧ v < 256) (h : byteL L = byteL M) : L = M := by
  have e : ∀ L : List Int, (∀ v ∈ L, 0 ≤ v ∧ v < 256) → (byteL L).map (fun b => (b.toNat : Int)) = L := by
    intro L hL
    simp only [byteL, List.map_map]
    rw [List.map_congr_left (g := id)]
    · simp
    · intro v hv
      have := hL v hv
      simp only [Function.comp, UInt8.toNat_ofNat', id]
      omega
  rw [← e L hL, ← e M hM, h]
/-- Two digests are the same just if their numbers are. -/
theorem eq_dig {L M : List Int} (hL : Dig L) (hM : Dig M) (w : World) : (Op.equalIn 10000 29 (.agg (nums .u8 L).toArray) (.agg (nums .u8 M).toArray)).run Try.prog w = .ok (decide (L = M)) w := by
  rw [byteL_cells hL.rg, byteL_cells hM.rg, run_equalIn_bytes w 9998 29 5 32 Try.underlying29 Try.underlying5 (fun w => Try.sizeOf5 w) (byteL L) (byteL M) (by simp [byteL, hL.len]) (by simp [byteL, hM.len])]
  congr 1
  rw [Bool.eq_iff_iff, beq_iff_eq, decide_eq_true_iff]
  exact ⟨fun h => byteL_inj hL.rg hM.rg h, fun h => by rw [h]⟩
theorem same_l0 (r : List S36) (hr : r.length ≤ 5864062014805) : ∀ (d i k : Nat), i + d = r.length → d < k → hibernacleref35_sameWrites.l0 k r r (i : Int) = some true
  | 0, i, k, h, hk => by
    obtain ⟨k, rfl⟩ : ∃ m, k = m + 1 := ⟨k - 1, by omega⟩
    rw [hibernacleref35_sameWrites.l0, if_neg (by omega)]
  | d + 1, i, k, h, hk => by
    obtain ⟨k, rfl⟩ : ∃ m, k = m + 1 := ⟨k - 1, by omega⟩
    rw [hibernacleref35_sameWrites.l0, if_pos (by omega), if_pos (by omega), if_pos (by omega), if_neg (by simp), wrap_succ (show i < r.length by omega) hr]
    exact same_l0 r hr d (i + 1) k (by omega) (by omega)
theorem same_f (r : List S36) (hr : r.length ≤ 5864062014805) : hibernacleref35_sameWrites.f (r.length + 1) r r = some true := by
  unfold hibernacleref35_sameWrites.f
  rw [if_pos rfl]
  exact same_l0 r hr r.length 0 _ (by omega) (by omega)
theorem dArr_range (w : World) (g : Nat) (L M : List Int) (hL : L.length = 32) (hM : M.length = 32) (v1 v2 : Value) (s : ByteArray) (h : Blk w g 32 (dArr L v1 v2 s M)) : w.rangeAt g 0 (nums .u8 L) ∧ w.rangeAt g 35 (nums .u8 M) := by
  have n0 : (nums .u8 L).length = 32 := by rw [nums_length]; exact hL
  constructor
  · intro j v hj
    have hlt : j < 32 := by rw [← n0]; exact (List.getElem?_eq_some_iff.1 hj).1
    rw [Nat.zero_add, h.cell, ← hj]
    unfold dArr
    rw [List.getElem?_toArray, List.append_assoc, List.getElem?_append_left (by omega)]
  · intro j v hj
    rw [h.cell, ← hj]
    unfold dArr
    rw [List.getElem?_toArray, List.getElem?_append_right (by simp [n0]), List.length_append, n0]
    congr 1
    simp
theorem dArr_mid (L M : List Int) (hL : L.length = 32) (v1 v2 : Value) (s : ByteArray) : (dArr L v1 v2 s M)[32]? = some v1 ∧ (dArr L v1 v2 s M)[33]? = some v2 ∧ (dArr L v1 v2 s M)[34]? = some (.string s) := by
  have n0 : (nums .u8 L).length = 32 := by rw [nums_length]; exact hL
  unfold dArr
  rw [List.getElem?_toArray, List.getElem?_toArray, List.getElem?_toArray, List.append_assoc]
  refine ⟨?_, ?_, ?_⟩
  · rw [List.getElem?_append_right (by omega), n0]; rfl
  · rw [List.getElem?_append_right (by omega), n0]; rfl
  · rw [List.getElem?_append_right (by omega), n0]; rfl

theorem wpList_load_midg {ops : Array Oper} {rest : List Oper} {op : Oper} {a : Act} {w : World} {Q : Exit → Act → World → Prop} (hw : Region.wanted op (yielded ops a.tmps) = true) (ty : TypeId) (x : Operand) (ho : op.op = .load ty x)
    (b o : Nat) (hx : a.eval x = .pointer (some ⟨b, o, none⟩)) (cs : Array Value) (hc : (Instr.loadAt ty (.pointer (some ⟨b, o, none⟩))).run Try.prog w = .ok (.agg cs) w)
    (h : wpList Try.prog ops Q rest (a.put op.dst (.agg cs)) w) : wpList Try.prog ops Q (op :: rest) a w :=
  wpList_step fun K hK => by
    rw [if_pos hw]
    unfold Oper.wp execOp
    simp only [ho, hx, hc, Sem.run_bind, Sem.run_pure, Result.andThen_ok]
    exact hK _ _ h
set_option maxRecDepth 100000 in
set_option maxHeartbeats 8000000 in
theorem same_calls (L M : List Int) (hL : Dig L) (hM : Dig M) (A1 : Option Addr) (c1 : Nat) (A2 : Option Addr) (c2 : Nat) (B1 : Option Addr) (d1 : Nat) (B2 : Option Addr) (d2 : Nat) (r1 r2 : List S36) (s : ByteArray) (w : World)
    (h1 : Kd.C k36 w A1 r1.length r1) (k1 : r1.length ≤ c1) (h2 : Kd.C k36 w A2 r2.length r2) (k2 : r2.length ≤ c2) (h3 : Kd.C k36 w B1 r1.length r1) (k3 : r1.length ≤ d1) (h4 : Kd.C k36 w B2 r2.length r2) (k4 : r2.length ≤ d2)
    (m1 : r1.length ≤ 5864062014805) (m2 : r2.length ≤ 5864062014805) :
    Calls Try.prog 10 #[.agg (dArr L (.slice A1 r1.length c1) (.slice A2 r2.length c2) s M), .agg (dArr L (.slice B1 r1.length d1) (.slice B2 r2.length d2) s M)] w fun e w' => e = .returned (.bool true) ∧ Below w.heap.size w w' := by
  have BA := (Blk.new w 32 (dArr L (.slice A1 r1.length c1) (.slice A2 r2.length c2) s M)).alloc (.cells (dArr L (.slice B1 r1.length d1) (.slice B2 r2.length d2) s M) 32)
  have BB := Blk.new (w.alloc (.cells (dArr L (.slice A1 r1.length c1) (.slice A2 r2.length c2) s M) 32)) 32 (dArr L (.slice B1 r1.length d1) (.slice B2 r2.length d2) s M)
  have W0 := ((Below.refl w.heap.size w).alloc (Nat.le_refl _) (.cells (dArr L (.slice A1 r1.length c1) (.slice A2 r2.length c2) s M) 32)).alloc (by simp) (.cells (dArr L (.slice B1 r1.length d1) (.slice B2 r2.length d2) s M) 32)
  rw [sz] at BB
  generalize hw0 : ((w.alloc (.cells (dArr L (.slice A1 r1.length c1) (.slice A2 r2.length c2) s M) 32)).alloc (.cells (dArr L (.slice B1 r1.length d1) (.slice B2 r2.length d2) s M) 32)) = w0 at BA BB W0
  have HW0 := Aside0.mk hw0
  clear hw0
  obtain ⟨ra1, ra2⟩ := dArr_range w0 _ L M hL.len hM.len _ _ s BA
  obtain ⟨rb1, rb2⟩ := dArr_range w0 _ L M hL.len hM.len _ _ s BB
  have n1 : (nums .u8 L).length = 32 := by rw [nums_length]; exact hL.len
  have n2 : (nums .u8 M).length = 32 := by rw [nums_length]; exact hM.len
  have l1 := run_loadAt_mid (P := Try.prog) w0 _ 0 29 _ _ ra1 Try.underlying29 rfl (by rw [n1]; kernel_rfl)
  have l2 := run_loadAt_mid (P := Try.prog) w0 _ 35 29 _ _ ra2 Try.underlying29 rfl (by rw [n2]; kernel_rfl)
  have l3 := run_loadAt_mid (P := Try.prog) w0 _ 0 29 _ _ rb1 Try.underlying29 rfl (by rw [n1]; kernel_rfl)
  have l4 := run_loadAt_mid (P := Try.prog) w0 _ 35 29 _ _ rb2 Try.underlying29 rfl (by rw [n2]; kernel_rfl)
  have l1 := Aside0.mk l1
  have l2 := Aside0.mk l2
  have l3 := Aside0.mk l3
  have l4 := Aside0.mk l4
  have q1 := eq_dig hL hL
  have q2 := eq_dig hM hM
  simp only [decide_true] at q1 q2
  obtain ⟨a1, a2, a3⟩ := dArr_mid L M hL.len (.slice A1 r1.length c1) (.slice A2 r2.length c2) s
  obtain ⟨b1, b2, b3⟩ := dArr_mid L M hL.len (.slice B1 r1.length d1) (.slice B2 r2.length d2) s
  have a1 := (BA.cell 32).trans a1
  have a2 := (BA.cell 33).trans a2
  have a3 := (BA.cell 34).trans a3
  have b1 := (BB.cell 32).trans b1
  have b2 := (BB.cell 33).trans b2
  have b3 := (BB.cell 34).trans b3
  have DL := Aside0.mk hL
  have DM := Aside0.mk hM
  have RA1 := Aside0.mk ra1
  have RB1 := Aside0.mk rb1
  have N1 := Aside0.mk n1
  have W0 := Aside0.mk W0
  clear ra1 ra2 rb1 rb2 n1 n2 BA BB hL hM
  generalize (nums .u8 L).toArray = LA at l1 l3 q1
  generalize (nums .u8 M).toArray = MA at l2 l4 q2
  go_enter Try.func10, Try.ntmps10
  go_wp2_with (first | rw [show ((w.alloc (.cells (dArr L (.slice A1 r1.length c1) (.slice A2 r2.length c2) s M) 32)).alloc (.cells (dArr L (.slice B1 r1.length d1) (.slice B2 r2.length d2) s M) 32)) = w0 from HW0.out] | (refine wpList_load_midg (by rfl) 29 (.tmp 5) rfl w.heap.size 0 rfl _ l1.out ?_) | (refine wpList_load_midg (by rfl) 29 (.tmp 7) rfl (w.heap.size + 1) 0 rfl _ l3.out ?_) | (refine wpList_load_midg (by rfl) 29 (.tmp 11) rfl w.heap.size 35 rfl _ l2.out ?_) | (refine wpList_load_midg (by rfl) 29 (.tmp 13) rfl (w.heap.size + 1) 35 rfl _ l4.out ?_))
  refine (hibernacleref35_sameWrites.calls _ A1 c1 r1 B1 d1 r1 true w0 (Kd.C_below h1 W0.out) k1 (Kd.C_below h3 W0.out) k3 (same_f r1 m1)).mono ?_
  rintro e w' ⟨rfl, ⟨n, rfl⟩⟩
  go_wp2_with fail
  refine (hibernacleref35_sameWrites.calls _ A2 c2 r2 B2 d2 r2 true _ (Kd.C_below h2 (pw_below_drewN W0.out n)) k2 (Kd.C_below h4 (pw_below_drewN W0.out n)) k4 (same_f r2 m2)).mono ?_
  rintro e w' ⟨rfl, ⟨m, rfl⟩⟩
  go_wp2_with fail
  go_ret
  exact ⟨rfl, pw_below_drewN W0.out (n + m)⟩
end Go.Proofs.Ytoljjgabgdifbaa.H


namespace Go.Proofs.Ytoljjgabgdifbaa.H
open Go.RowKit Go.Proofs.YtoljjgabgdifbaaW.PrintWords Go.Proofs.YtoljjgabgdifbaaW.PrintLast Go.Proofs.YtoljjgabgdifbaaW.PrintMore
set_option linter.unusedVariables false
set_option linter.unusedSimpArgs false

def slices_Clone_string_string.f (l0 : List ByteArray) : Option (List ByteArray) := if l0.length ≤ 8796093022208 then some l0 else none
theorem slices_Clone_string_string.calls (A0 : Option Addr) (c0 : Nat) (l0 : List ByteArray) (r : List ByteArray) (w : World) (hr0 : Kd.C Kd.string w A0 l0.length l0) (hc0 : l0.length ≤ c0) (h : slices_Clone_string_string.f l0 = some r) :
    Calls Try.prog 42 #[.slice A0 l0.length c0] w fun e w' => ∃ v0_ : Value, e = .returned (v0_) ∧ Kd.R Kd.string 9 w' w.heap.size (fun _ => True) v0_ r ∧ Below w.heap.size w w' := by
  unfold slices_Clone_string_string.f at h
  split at h
  case isFalse => cases h
  case isTrue hl =>
  cases h
  by_cases h0 : l0 = []
  · subst h0
    cases A0 with
    | none =>
      refine (Try.slices_Clone_string_nil 0 c0 w).mono ?_
      rintro e w' ⟨rfl, rfl⟩
      exact ⟨_, rfl, Kd.R_nil _ _ _ _ _, Below.refl _ _⟩
    | some ad =>
      refine (Try.slices_Clone_string_zero ad c0 w).mono ?_
      rintro e w' ⟨v', rfl, ho, _, hb⟩
      exact ⟨v', rfl, Kd.R_of_own ho (fun _ _ => trivial), hb⟩
  · have hpos : 0 < l0.length := List.length_pos_iff.mpr h0
    obtain ⟨ad, rfl, hc⟩ : ∃ ad, A0 = some ad ∧ ∀ j, j < l0.length → w.cell? (ad.add j) = some (.string (l0.getD j ByteArray.empty)) := by
      obtain ⟨ad, e, _⟩ := Kd.at_string hr0 0 (by omega) (by omega)
      subst e
      refine ⟨ad, rfl, fun j hj => ?_⟩
      obtain ⟨ad', e', hx⟩ := Kd.at_string hr0 (j : Int) (by omega) (by omega)
      cases e'
      simpa [rdOf] using hx
    obtain ⟨b, off, sp⟩ := ad
    have hs : sp = none := by
      have z := hc 0 hpos
      have z2 := World.cell?_spot z
      simpa [Addr.add] using z2
    subst hs
    refine (Try.slices_Clone_string b off l0.length c0 l0 w (Nat.le_refl _) (by omega) (fun j hj => by rw [← Addr.add_mid]; exact hc j hj)).mono ?_
    rintro e w' ⟨v', rfl, ho, _, hb⟩
    rw [List.take_length] at ho
    exact ⟨v', rfl, Kd.R_of_own ho (fun _ _ => trivial), hb⟩
end Go.Proofs.Ytoljjgabgdifbaa.H

