/- Layer 35 of the program: a delta is done on an image. Layer 35 of the program: a copy of a delta; two deltas joined. Writes, read of a row. -/
import Derived.Test.YtoljjgabgdifbaaGreatDoorZbPR3toR5toPG5
import Derived.Test.YtoljjgabgdifbaaGreatDoorZbPT2
import Derived.Laws.ResultCell
import Derived.Lib.SliceRun
import Derived.Test.YtoljjgabgdifbaaGreatDoorZbPH13toJ2toPJ3toR1
import Derived.Test.YtoljjgabgdifbaaGreatDoorZbB1toB4

namespace Go.Proofs.YtoljjgabgdifbaaGreatDoor.H
open Go.RowKit Go.Proofs.YtoljjgabgdifbaaGreatDoorW.PrintWords Go.Proofs.YtoljjgabgdifbaaGreatDoorW.PrintLast Go.Proofs.YtoljjgabgdifbaaGreatDoorW.PrintMore
set_option linter.unusedVariables false
set_option linter.unusedSimpArgs false

theorem results_row_tmp {P : Program} {fn : Func} {p u : Tmp} {ty : TypeId} (h : fn.results = #[.cell p ty, .tmp u]) (tmps : Array Value) (w : World) (g : Nat) (t : TypeId) (cs : Array Value) (d : TypeDesc)
    (hp : tmps.getD p undef = .pointer (some ⟨g, 0, none⟩)) (hg : Blk w g t cs)
    (hu : P.underlying ty = some d) (hd : (match d with | .struct _ | .array _ _ => true | _ => false) = true) (hi : (P.info? ty).map (·.size) = some cs.size) :
    (results fn tmps).run P w = .ok (.tuple #[.agg cs, tmps.getD u undef]) w := by
  rw [results_cell_tmp h, hp]
  simp [asAddr, run_loadVar_row w g t ty cs (0, 0) d hg hu hd hi]
set_option maxRecDepth 100000 in
set_option maxHeartbeats 8000000 in
/-- A delta of this image, or of that without anything. -/
theorem apply_ok (K : Nat) (y0 y1 : List ByteArray) (y : S24)
    (L M : List Int) (hL : Dig L) (hM : Dig M) (A0 : Option Addr) (c0 : Nat) (A1 : Option Addr) (c1 : Nat) (x : S24) (U1 : Option Addr) (u1 : Nat) (r1 : List S46) (U2 : Option Addr) (u2 : Nat) (r2 : List S46) (s : ByteArray) (w : World)
    (hA0 : Kd.C Kd.string w A0 x.f0.length x.f0) (ha0 : x.f0.length ≤ c0) (hA1 : Kd.C Kd.string w A1 x.f1.length x.f1) (ha1 : x.f1.length ≤ c1) (hLx : (imageL x.f0 x.f1 x.f2).length ≤ 140737488355328)
    (hU1 : Kd.C k46 w U1 r1.length r1) (hu1 : r1.length ≤ u1) (hU2 : Kd.C k46 w U2 r2.length r2) (hu2 : r2.length ≤ u2)
    (hcase : imgSum x.f0 x.f1 x.f2 = L ∧ y = x ∨ imgSum x.f0 x.f1 x.f2 ≠ L ∧ emptySum = L ∧ y = ⟨[], [], ⟨#[]⟩⟩)
    (hd0 : delta_done.f K y.f0 r1 = some (y0, 0)) (hd1 : delta_done.f K y.f1 r2 = some (y1, 0)) (hsum : imgSum y0 y1 s = M) (hLy : (imageL y0 y1 s).length ≤ 140737488355328) :
    Calls Tryz.prog 10 #[.agg #[.slice A0 x.f0.length c0, .slice A1 x.f1.length c1, .string x.f2], .agg (dArr L (.slice U1 r1.length u1) (.slice U2 r2.length u2) s M)] w fun e w' => ∃ Y0 d0 Y1 d1, e = .returned (.tuple #[.agg #[.slice Y0 y0.length d0, .slice Y1 y1.length d1, .string s], .int .i64 0]) ∧ Kd.C Kd.string w' Y0 y0.length y0 ∧ y0.length ≤ d0 ∧ Kd.C Kd.string w' Y1 y1.length y1 ∧ y1.length ≤ d1 ∧ Below w.heap.size w w' := by
  have qm := eq_dig hM hM
  simp only [decide_true] at qm
  have BC := ((Blk.new w 24 #[.slice A0 x.f0.length c0, .slice A1 x.f1.length c1, .string x.f2]).alloc (.cells (dArr L (.slice U1 r1.length u1) (.slice U2 r2.length u2) s M) 31)).alloc (.cells #[.slice none 0 0, .slice none 0 0, .string ⟨#[]⟩] 24)
  have BD := (Blk.new (w.alloc (.cells #[.slice A0 x.f0.length c0, .slice A1 x.f1.length c1, .string x.f2] 24)) 31 (dArr L (.slice U1 r1.length u1) (.slice U2 r2.length u2) s M)).alloc (.cells #[.slice none 0 0, .slice none 0 0, .string ⟨#[]⟩] 24)
  have BR := Blk.new ((w.alloc (.cells #[.slice A0 x.f0.length c0, .slice A1 x.f1.length c1, .string x.f2] 24)).alloc (.cells (dArr L (.slice U1 r1.length u1) (.slice U2 r2.length u2) s M) 31)) 24 #[.slice none 0 0, .slice none 0 0, .string ⟨#[]⟩]
  have W0 := (((Below.refl w.heap.size w).alloc (Nat.le_refl _) (.cells #[.slice A0 x.f0.length c0, .slice A1 x.f1.length c1, .string x.f2] 24)).alloc (by simp) (.cells (dArr L (.slice U1 r1.length u1) (.slice U2 r2.length u2) s M) 31)).alloc (by simp; omega) (.cells #[.slice none 0 0, .slice none 0 0, .string ⟨#[]⟩] 24)
  rw [sz] at BD
  rw [sz, sz] at BR
  generalize hw0 : (((w.alloc (.cells #[.slice A0 x.f0.length c0, .slice A1 x.f1.length c1, .string x.f2] 24)).alloc (.cells (dArr L (.slice U1 r1.length u1) (.slice U2 r2.length u2) s M) 31)).alloc (.cells #[.slice none 0 0, .slice none 0 0, .string ⟨#[]⟩] 24)) = w0 at BC BD BR W0
  have HW0 := Aside0.mk hw0
  clear hw0
  have BC1 := Aside0.mk BC.drew
  have BD1 := Aside0.mk BD.drew
  have BR1 := Aside0.mk BR.drew
  have W1 := Aside0.mk (below_drew W0)
  clear BC BD BR W0
  have HSL := imgSum_dig x.f0 x.f1 x.f2
  obtain ⟨I, hI⟩ : ∃ I, I = imgSum x.f0 x.f1 x.f2 := ⟨_, rfl⟩
  have SUM : Aside0 (∀ W, Below w.heap.size w W → Calls Tryz.prog 15 #[.agg #[.slice A0 x.f0.length c0, .slice A1 x.f1.length c1, .string x.f2]] W fun e w' => e = .returned (.agg (nums .u8 I).toArray) ∧ Below W.heap.size W w') := ⟨fun W hb => by
    rw [hI]
    exact imageSum_calls A0 c0 x.f0 A1 c1 x.f1 x.f2 W (Kd.C_below hA0 hb) ha0 (Kd.C_below hA1 hb) ha1 hLx⟩
  rw [← hI] at HSL hcase
  have q := eq_dig HSL hL
  have qe := eq_dig (imgSum_dig [] [] ⟨#[]⟩) hL
  rw [show imgSum [] [] ⟨#[]⟩ = emptySum from rfl] at qe
  obtain ⟨E, hE⟩ : ∃ E, E = emptySum := ⟨_, rfl⟩
  have nothing_calls := fun W => nothing_calls W
  rw [← hE] at qe nothing_calls hcase
  have hL := Aside0.mk hL
  have hM := Aside0.mk hM
  have nothing_calls := fun W => nothing_calls W
  clear hI hE HSL
  obtain ⟨a32, a33, a34⟩ := dArr_mid L M hL.out.len (.slice U1 r1.length u1) (.slice U2 r2.length u2) s
  have A32 := Aside0.mk a32
  have A33 := Aside0.mk a33
  have A34 := Aside0.mk a34
  clear a32 a33 a34
  have HSU := Aside0.mk hsum
  clear hsum
  rcases hcase with ⟨h1, hy⟩ | ⟨h1, h2, hy⟩
  · rw [decide_eq_true h1] at q
    clear h1 qe nothing_calls
    go_enter Tryz.func10, Tryz.ntmps10
    go_wp2_with (rw [show (((w.alloc (.cells #[.slice A0 x.f0.length c0, .slice A1 x.f1.length c1, .string x.f2] 24)).alloc (.cells (dArr L (.slice U1 r1.length u1) (.slice U2 r2.length u2) s M) 31)).alloc (.cells #[.slice none 0 0, .slice none 0 0, .string ⟨#[]⟩] 24)) = w0 from HW0.out])
    refine start_ (n := 5) (S := fun w' => Blk w' w.heap.size 24 #[.slice A0 x.f0.length c0, .slice A1 x.f1.length c1, .string x.f2] ∧ Blk w' (w.heap.size + 1) 31 (dArr L (.slice U1 r1.length u1) (.slice U2 r2.length u2) s M)) (ds := []) #[false, false, false, false, false] (by kernel_rfl) rfl rfl ⟨BC1.out, BD1.out⟩ (fun hHeld => ?_)
    refine pure_ (i := 2) (N := some 12) (v := ?_) (a' := ?_) #[false, false, true, false, false] rfl rfl (by kernel_rfl) (fun _ _ _ h => h) (Or.inl ⟨by rfl, ?_⟩) ?_ ?_
    rotate_left
    · intro w'
      go_simp
      with_reducible rfl
    rotate_left
    · simp only [Act.put, List.setIfInBounds_toArray, List.set_cons_zero, List.set_cons_succ, i64_w, i32_w]
      rfl
    refine take_ (i := 0) (N := some 10) (v := ?_) (a' := ?_) #[true, false, true, false, false] rfl rfl (by kernel_rfl) (fun _ _ _ h => h) (Or.inl ⟨by rfl, ?_⟩) hHeld ?_ ?_
    rotate_left
    · rintro w' ⟨s0, s1⟩
      refine row_loads 24 (.tmp 2) ?_ w.heap.size ?_ s0 Tryz.underlying24 ?_ ?_
      · rfl
      · rfl
      · rfl
      · kernel_rfl
    rotate_left
    · simp only [Act.put, List.setIfInBounds_toArray, List.set_cons_zero, List.set_cons_succ, i64_w, i32_w]
      rfl
    refine take_ (i := 3) (N := some 13) (v := ?_) (a' := ?_) #[true, false, true, true, false] rfl rfl (by kernel_rfl) (fun _ _ _ h => h) (Or.inl ⟨by rfl, ?_⟩) hHeld ?_ ?_
    rotate_left
    · rintro w' ⟨s0, s1⟩
      refine mid_loads 28 (.tmp 12) ?_ (w.heap.size + 1) 0 ?_ (dArr_range w' _ L M hL.out.len hM.out.len _ _ s s1).1 Tryz.underlying28 ?_ ?_
      · rfl
      · rfl
      · rfl
      · rw [nums_length, hL.out.len]; kernel_rfl
    rotate_left
    · simp only [Act.put, List.setIfInBounds_toArray, List.set_cons_zero, List.set_cons_succ, i64_w, i32_w]
      rfl
    refine one_ (i := 1) (N := some 11) #[true, true, true, true, false] rfl rfl (by kernel_rfl) (by decide) (fun K hK => ?_)
    refine goes_ Tryz.func15 (by kernel_rfl) rfl #[.agg #[.slice A0 x.f0.length c0, .slice A1 x.f1.length c1, .string x.f2]] (by rfl) rfl rfl (by simp only [List.map_toArray, List.map_cons, List.map_nil]; rfl) ?_
    with_reducible refine (SUM.out _ W1.out).mono ?_
    rintro e w2 ⟨rfl, hb⟩
    refine ⟨_, rfl, ?_⟩
    have BC2 := Aside0.mk (BC1.out.below hb BC1.out.lt)
    have BD2 := Aside0.mk (BD1.out.below hb BD1.out.lt)
    have BR2 := Aside0.mk (BR1.out.below hb BR1.out.lt)
    have W2 := Aside0.mk (below_then W1.out W1.out.size hb)
    clear hb
    refine hK.out _ _ ⟨BC2.out, BD2.out⟩ (fun hHeld => ?_)
    clear hK K
    refine norm_ (a' := ?_) ?_ ?_
    rotate_left
    · show Act.put _ (some 11) _ = _
      simp only [Act.put, List.setIfInBounds_toArray, List.set_cons_zero, List.set_cons_succ, i64_w, i32_w]
      rfl
    refine pure_ (i := 4) (N := some 14) (v := ?_) (a' := ?_) #[true, true, true, true, true] rfl rfl (by kernel_rfl) (fun _ _ _ h => h) (Or.inl ⟨by rfl, ?_⟩) ?_ ?_
    rotate_left
    · intro w'
      go_simp
      with_reducible rfl
    rotate_left
    · simp only [Act.put, List.setIfInBounds_toArray, List.set_cons_zero, List.set_cons_succ, i64_w, i32_w]
      rfl
    refine done_ (by kernel_rfl) ?_

    clear hHeld
    obtain ⟨X0, x0, X1, x1, hX0, hx0, hX1, hx1, BYE⟩ : ∃ X0 x0 X1 x1, Kd.C Kd.string w X0 y.f0.length y.f0 ∧ y.f0.length ≤ x0 ∧ Kd.C Kd.string w X1 y.f1.length y.f1 ∧ y.f1.length ≤ x1 ∧ Aside0 (Blk w2 w.heap.size 24 #[.slice X0 y.f0.length x0, .slice X1 y.f1.length x1, .string y.f2]) := by
      rw [hy]
      exact ⟨A0, c0, A1, c1, hA0, ha0, hA1, ha1, BC2⟩
    have BDE := BD2
    have BRE := BR2
    have WE := W2
    clear BC1 BC2 BD1 BD2 BR1 BR2 W1 W2 hy SUM q
    have yc0 : w2.cell? ⟨w.heap.size, 0, none⟩ = some (.slice X0 y.f0.length x0) := BYE.out.cell 0
    have dc1 : w2.cell? ⟨w.heap.size + 1, 32, none⟩ = some (.slice U1 r1.length u1) := (BDE.out.cell 32).trans A32.out
    go_wp2_with (first | ((with_reducible refine (delta_done.calls K X0 x0 y.f0 U1 u1 r1 y0 0 _ (Kd.C_below hX0 WE.out) hx0 (Kd.C_below hU1 WE.out) hu1 hd0).mono ?_); rintro e w5 ⟨v1, rfl, hR, hb⟩; obtain ⟨Y0, d0, rfl⟩ := Kd.R_slice hR; have HLT5 := BRE.out.lt; have HLT5 := Aside0.mk HLT5; have BY5 := Aside0.mk (BYE.out.below hb BYE.out.lt); have BD5 := Aside0.mk (BDE.out.below hb BDE.out.lt); have BR5 := Aside0.mk (BRE.out.below hb BRE.out.lt); have W5 := Aside0.mk (below_then WE.out WE.out.size hb); have R05 := Aside0.mk hR; have yc1 : w5.cell? ⟨w.heap.size, 1, none⟩ = some (.slice X1 y.f1.length x1) := BY5.out.cell 1; have dc2 : w5.cell? ⟨w.heap.size + 1, 33, none⟩ = some (.slice U2 r2.length u2) := (BD5.out.cell 33).trans A33.out; clear hb hR yc0 dc1) | ((with_reducible refine (delta_done.calls K X1 x1 y.f1 U2 u2 r2 y1 0 _ (Kd.C_below hX1 W5.out) hx1 (Kd.C_below hU2 W5.out) hu2 hd1).mono ?_); rintro e w7 ⟨v2, rfl, hR, hb⟩; obtain ⟨Y1, d1, rfl⟩ := Kd.R_slice hR; have HLT6 := Aside0.mk BR5.out.lt; have BD7 := Aside0.mk (BD5.out.below hb BD5.out.lt); have BR7 := Aside0.mk (BR5.out.below hb BR5.out.lt); have W7 := Aside0.mk (below_then W5.out W5.out.size hb); have R07 := Aside0.mk (Kd.R_below R05.out hb); have R17 := Aside0.mk hR; have dc3 : w7.cell? ⟨w.heap.size + 1, 34, none⟩ = some (.string s) := (BD7.out.cell 34).trans A34.out; clear hb hR yc1 dc2))
    obtain ⟨_, m0, C0⟩ := Kd.R_reads' R07.out
    obtain ⟨_, m1, C1⟩ := Kd.R_reads' R17.out
    have C0 := Kd.C_below C0 (below_drew ((Below.refl w7.heap.size w7).alloc (Nat.le_refl _) (.cells #[.slice Y0 y0.length d0, .slice Y1 y1.length d1, .string s] 24)))
    have C1 := Kd.C_below C1 (below_drew ((Below.refl w7.heap.size w7).alloc (Nat.le_refl _) (.cells #[.slice Y0 y0.length d0, .slice Y1 y1.length d1, .string s] 24)))
    have BG20 := Aside0.mk (Blk.new w7 24 #[.slice Y0 y0.length d0, .slice Y1 y1.length d1, .string s]).drew
    have BD20 := Aside0.mk (BD7.out.alloc (.cells #[.slice Y0 y0.length d0, .slice Y1 y1.length d1, .string s] 24)).drew
    have BR20 := Aside0.mk (BR7.out.alloc (.cells #[.slice Y0 y0.length d0, .slice Y1 y1.length d1, .string s] 24)).drew
    have W20 := Aside0.mk (below_drew (W7.out.alloc W7.out.size (.cells #[.slice Y0 y0.length d0, .slice Y1 y1.length d1, .string s] 24)))
    have R020 := Kd.R_drewN (Kd.R_alloc R07.out (.cells #[.slice Y0 y0.length d0, .slice Y1 y1.length d1, .string s] 24)) 1
    have R120 := Kd.R_drewN (Kd.R_alloc R17.out (.cells #[.slice Y0 y0.length d0, .slice Y1 y1.length d1, .string s] 24)) 1
    generalize w7.alloc (.cells #[.slice Y0 y0.length d0, .slice Y1 y1.length d1, .string s] 24) = wg at BG20 BD20 BR20 W20 C0 C1 R020 R120 ⊢
    generalize w7.heap.size = g at BG20 ⊢
    have SUY : Aside0 (Calls Tryz.prog 15 #[.agg #[.slice Y0 y0.length d0, .slice Y1 y1.length d1, .string s]] wg.drew fun e w' => e = .returned (.agg (nums .u8 M).toArray) ∧ Below wg.drew.heap.size wg.drew w') := ⟨by
      rw [← HSU.out]
      exact imageSum_calls Y0 d0 y0 Y1 d1 y1 s wg.drew C0 m0 C1 m1 hLy⟩
    have R020 := Aside0.mk R020
    have R120 := Aside0.mk R120
    have M0 := Aside0.mk m0
    have M1 := Aside0.mk m1
    clear C0 C1 m0 m1 R07 R17 BD7 BR7 W7
    refine start_ (n := 5) (S := fun w' => Blk w' g 24 #[.slice Y0 y0.length d0, .slice Y1 y1.length d1, .string s] ∧ Blk w' (w.heap.size + 1) 31 (dArr L (.slice U1 r1.length u1) (.slice U2 r2.length u2) s M)) (ds := []) #[false, false, false, false, false] (by kernel_rfl) rfl rfl ⟨BG20.out, BD20.out⟩ (fun hHeld => ?_)
    refine pure_ (i := 2) (N := some 52) (v := ?_) (a' := ?_) #[false, false, true, false, false] rfl rfl (by kernel_rfl) (fun _ _ _ h => h) (Or.inl ⟨by rfl, ?_⟩) ?_ ?_
    rotate_left
    · intro w'
      go_simp
      with_reducible rfl
    rotate_left
    · simp only [Act.put, List.setIfInBounds_toArray, List.set_cons_zero, List.set_cons_succ, i64_w, i32_w]
      rfl
    refine take_ (i := 0) (N := some 50) (v := ?_) (a' := ?_) #[true, false, true, false, false] rfl rfl (by kernel_rfl) (fun _ _ _ h => h) (Or.inl ⟨by rfl, ?_⟩) hHeld ?_ ?_
    rotate_left
    · rintro w' ⟨s0, s1⟩
      refine row_loads 24 (.tmp 9) ?_ g ?_ s0 Tryz.underlying24 ?_ ?_
      · rfl
      · rfl
      · rfl
      · kernel_rfl
    rotate_left
    · simp only [Act.put, List.setIfInBounds_toArray, List.set_cons_zero, List.set_cons_succ, i64_w, i32_w]
      rfl
    refine take_ (i := 3) (N := some 53) (v := ?_) (a' := ?_) #[true, false, true, true, false] rfl rfl (by kernel_rfl) (fun _ _ _ h => h) (Or.inl ⟨by rfl, ?_⟩) hHeld ?_ ?_
    rotate_left
    · rintro w' ⟨s0, s1⟩
      refine mid_loads 28 (.tmp 52) ?_ (w.heap.size + 1) 35 ?_ (dArr_range w' _ L M hL.out.len hM.out.len _ _ s s1).2 Tryz.underlying28 ?_ ?_
      · rfl
      · rfl
      · rfl
      · rw [nums_length, hM.out.len]; kernel_rfl
    rotate_left
    · simp only [Act.put, List.setIfInBounds_toArray, List.set_cons_zero, List.set_cons_succ, i64_w, i32_w]
      rfl
    refine one_ (i := 1) (N := some 51) #[true, true, true, true, false] rfl rfl (by kernel_rfl) (by decide) (fun K hK => ?_)
    refine goes_ Tryz.func15 (by kernel_rfl) rfl #[.agg #[.slice Y0 y0.length d0, .slice Y1 y1.length d1, .string s]] (by rfl) rfl rfl (by simp only [List.map_toArray, List.map_cons, List.map_nil]; rfl) ?_
    with_reducible refine (SUY.out).mono ?_
    rintro e w8 ⟨rfl, hb⟩
    refine ⟨_, rfl, ?_⟩
    have BG21 := Aside0.mk (BG20.out.below hb BG20.out.lt)
    have BD21 := Aside0.mk (BD20.out.below hb BD20.out.lt)
    have BR21 := Aside0.mk (BR20.out.below hb BR20.out.lt)
    have W21 := Aside0.mk (below_then W20.out W20.out.size hb)
    have R021 := Aside0.mk (Kd.R_below R020.out hb)
    have R121 := Aside0.mk (Kd.R_below R120.out hb)
    clear hb
    refine hK.out _ _ ⟨BG21.out, BD21.out⟩ (fun hHeld => ?_)
    clear hK K
    refine norm_ (a' := ?_) ?_ ?_
    rotate_left
    · show Act.put _ (some 51) _ = _
      simp only [Act.put, List.setIfInBounds_toArray, List.set_cons_zero, List.set_cons_succ, i64_w, i32_w]
      rfl
    refine pure_ (i := 4) (N := some 54) (v := ?_) (a' := ?_) #[true, true, true, true, true] rfl rfl (by kernel_rfl) (fun _ _ _ h => h) (Or.inl ⟨by rfl, ?_⟩) ?_ ?_
    rotate_left
    · intro w'
      go_simp
      with_reducible rfl
    rotate_left
    · simp only [Act.put, List.setIfInBounds_toArray, List.set_cons_zero, List.set_cons_succ, i64_w, i32_w]
      rfl
    refine done_ (by kernel_rfl) ?_

    clear hHeld
    go_wp2_with (first | (refine wpList_load_row rfl 24 (.tmp 9) rfl g rfl 24 _ (0, 0) _ BG21.out Tryz.underlying24 rfl (by kernel_rfl) ?_) | (refine wpList_store_row rfl 24 (.tmp 4) (.tmp 56) rfl (w.heap.size + 1 + 1) _ rfl rfl 24 _ BR21.out (by kernel_rfl) (by kernel_rfl) (by kernel_rfl) ?_))
    have Q0 := R_setRow R021.out HLT5.out #[.slice Y0 y0.length d0, .slice Y1 y1.length d1, .string s]
    have Q1 := R_setRow R121.out HLT6.out #[.slice Y0 y0.length d0, .slice Y1 y1.length d1, .string s]
    exact bodyPost_ret (results_row_tmp (p := 4) (u := 5) (ty := 24) rfl _ _ (w.heap.size + 1 + 1) 24 _ _ rfl (BR21.out.setRow_ _) Tryz.underlying24 rfl (by kernel_rfl)) rfl ⟨Y0, d0, Y1, d1, rfl, (Kd.R_reads' Q0).2.2, (Kd.R_reads' Q0).2.1, (Kd.R_reads' Q1).2.2, (Kd.R_reads' Q1).2.1, below_setRow' W21.out (by omega) _⟩

  · rw [decide_eq_false h1] at q
    rw [decide_eq_true h2] at qe
    clear h1 h2
    go_enter Tryz.func10, Tryz.ntmps10
    go_wp2_with (rw [show (((w.alloc (.cells #[.slice A0 x.f0.length c0, .slice A1 x.f1.length c1, .string x.f2] 24)).alloc (.cells (dArr L (.slice U1 r1.length u1) (.slice U2 r2.length u2) s M) 31)).alloc (.cells #[.slice none 0 0, .slice none 0 0, .string ⟨#[]⟩] 24)) = w0 from HW0.out])
    refine start_ (n := 5) (S := fun w' => Blk w' w.heap.size 24 #[.slice A0 x.f0.length c0, .slice A1 x.f1.length c1, .string x.f2] ∧ Blk w' (w.heap.size + 1) 31 (dArr L (.slice U1 r1.length u1) (.slice U2 r2.length u2) s M)) (ds := []) #[false, false, false, false, false] (by kernel_rfl) rfl rfl ⟨BC1.out, BD1.out⟩ (fun hHeld => ?_)
    refine pure_ (i := 2) (N := some 12) (v := ?_) (a' := ?_) #[false, false, true, false, false] rfl rfl (by kernel_rfl) (fun _ _ _ h => h) (Or.inl ⟨by rfl, ?_⟩) ?_ ?_
    rotate_left
    · intro w'
      go_simp
      with_reducible rfl
    rotate_left
    · simp only [Act.put, List.setIfInBounds_toArray, List.set_cons_zero, List.set_cons_succ, i64_w, i32_w]
      rfl
    refine take_ (i := 0) (N := some 10) (v := ?_) (a' := ?_) #[true, false, true, false, false] rfl rfl (by kernel_rfl) (fun _ _ _ h => h) (Or.inl ⟨by rfl, ?_⟩) hHeld ?_ ?_
    rotate_left
    · rintro w' ⟨s0, s1⟩
      refine row_loads 24 (.tmp 2) ?_ w.heap.size ?_ s0 Tryz.underlying24 ?_ ?_
      · rfl
      · rfl
      · rfl
      · kernel_rfl
    rotate_left
    · simp only [Act.put, List.setIfInBounds_toArray, List.set_cons_zero, List.set_cons_succ, i64_w, i32_w]
      rfl
    refine take_ (i := 3) (N := some 13) (v := ?_) (a' := ?_) #[true, false, true, true, false] rfl rfl (by kernel_rfl) (fun _ _ _ h => h) (Or.inl ⟨by rfl, ?_⟩) hHeld ?_ ?_
    rotate_left
    · rintro w' ⟨s0, s1⟩
      refine mid_loads 28 (.tmp 12) ?_ (w.heap.size + 1) 0 ?_ (dArr_range w' _ L M hL.out.len hM.out.len _ _ s s1).1 Tryz.underlying28 ?_ ?_
      · rfl
      · rfl
      · rfl
      · rw [nums_length, hL.out.len]; kernel_rfl
    rotate_left
    · simp only [Act.put, List.setIfInBounds_toArray, List.set_cons_zero, List.set_cons_succ, i64_w, i32_w]
      rfl
    refine one_ (i := 1) (N := some 11) #[true, true, true, true, false] rfl rfl (by kernel_rfl) (by decide) (fun K hK => ?_)
    refine goes_ Tryz.func15 (by kernel_rfl) rfl #[.agg #[.slice A0 x.f0.length c0, .slice A1 x.f1.length c1, .string x.f2]] (by rfl) rfl rfl (by simp only [List.map_toArray, List.map_cons, List.map_nil]; rfl) ?_
    with_reducible refine (SUM.out _ W1.out).mono ?_
    rintro e w2 ⟨rfl, hb⟩
    refine ⟨_, rfl, ?_⟩
    have BC2 := Aside0.mk (BC1.out.below hb BC1.out.lt)
    have BD2 := Aside0.mk (BD1.out.below hb BD1.out.lt)
    have BR2 := Aside0.mk (BR1.out.below hb BR1.out.lt)
    have W2 := Aside0.mk (below_then W1.out W1.out.size hb)
    clear hb
    refine hK.out _ _ ⟨BC2.out, BD2.out⟩ (fun hHeld => ?_)
    clear hK K
    refine norm_ (a' := ?_) ?_ ?_
    rotate_left
    · show Act.put _ (some 11) _ = _
      simp only [Act.put, List.setIfInBounds_toArray, List.set_cons_zero, List.set_cons_succ, i64_w, i32_w]
      rfl
    refine pure_ (i := 4) (N := some 14) (v := ?_) (a' := ?_) #[true, true, true, true, true] rfl rfl (by kernel_rfl) (fun _ _ _ h => h) (Or.inl ⟨by rfl, ?_⟩) ?_ ?_
    rotate_left
    · intro w'
      go_simp
      with_reducible rfl
    rotate_left
    · simp only [Act.put, List.setIfInBounds_toArray, List.set_cons_zero, List.set_cons_succ, i64_w, i32_w]
      rfl
    refine done_ (by kernel_rfl) ?_

    clear hHeld
    go_wp2_with fail
    have BC3 := Aside0.mk BC2.out.drew
    have BD3 := Aside0.mk BD2.out.drew
    have BR3 := Aside0.mk BR2.out.drew
    have W3 := Aside0.mk (below_drew W2.out)
    refine start_ (n := 4) (S := fun w' => Blk w' (w.heap.size + 1) 31 (dArr L (.slice U1 r1.length u1) (.slice U2 r2.length u2) s M)) (ds := []) #[false, false, false, false] (by kernel_rfl) rfl rfl (BD3.out) (fun hHeld => ?_)
    refine pure_ (i := 1) (N := some 16) (v := ?_) (a' := ?_) #[false, true, false, false] rfl rfl (by kernel_rfl) (fun _ _ _ h => h) (Or.inl ⟨by rfl, ?_⟩) ?_ ?_
    rotate_left
    · intro w'
      go_simp
      with_reducible rfl
    rotate_left
    · simp only [Act.put, List.setIfInBounds_toArray, List.set_cons_zero, List.set_cons_succ, i64_w, i32_w]
      rfl
    refine take_ (i := 2) (N := some 17) (v := ?_) (a' := ?_) #[false, true, true, false] rfl rfl (by kernel_rfl) (fun _ _ _ h => h) (Or.inl ⟨by rfl, ?_⟩) hHeld ?_ ?_
    rotate_left
    · intro w' s0
      refine mid_loads 28 (.tmp 16) ?_ (w.heap.size + 1) 0 ?_ (dArr_range w' _ L M hL.out.len hM.out.len _ _ s s0).1 Tryz.underlying28 ?_ ?_
      · rfl
      · rfl
      · rfl
      · rw [nums_length, hL.out.len]; kernel_rfl
    rotate_left
    · simp only [Act.put, List.setIfInBounds_toArray, List.set_cons_zero, List.set_cons_succ, i64_w, i32_w]
      rfl
    refine one_ (i := 0) (N := some 15) #[true, true, true, false] rfl rfl (by kernel_rfl) (by decide) (fun K hK => ?_)
    refine goes_ Tryz.func25 (by kernel_rfl) rfl #[] (by rfl) rfl rfl (by simp only [List.map_toArray, List.map_nil]) ?_
    with_reducible refine (nothing_calls _).mono ?_
    rintro e w4 ⟨rfl, hb⟩
    refine ⟨_, rfl, ?_⟩
    have BC4 := Aside0.mk (BC3.out.below hb BC3.out.lt)
    have BD4 := Aside0.mk (BD3.out.below hb BD3.out.lt)
    have BR4 := Aside0.mk (BR3.out.below hb BR3.out.lt)
    have W4 := Aside0.mk (below_then W3.out W3.out.size hb)
    clear hb
    refine hK.out _ _ (BD4.out) (fun hHeld => ?_)
    clear hK K
    refine norm_ (a' := ?_) ?_ ?_
    rotate_left
    · show Act.put _ (some 15) _ = _
      simp only [Act.put, List.setIfInBounds_toArray, List.set_cons_zero, List.set_cons_succ, i64_w, i32_w]
      rfl
    refine pure_ (i := 3) (N := some 18) (v := ?_) (a' := ?_) #[true, true, true, true] rfl rfl (by kernel_rfl) (fun _ _ _ h => h) (Or.inl ⟨by rfl, ?_⟩) ?_ ?_
    rotate_left
    · intro w'
      go_simp
      with_reducible rfl
    rotate_left
    · simp only [Act.put, List.setIfInBounds_toArray, List.set_cons_zero, List.set_cons_succ, i64_w, i32_w]
      rfl
    refine done_ (by kernel_rfl) ?_

    clear hHeld
    obtain ⟨X0, x0, X1, x1, hX0, hx0, hX1, hx1, BYE⟩ : ∃ X0 x0 X1 x1, Kd.C Kd.string w X0 y.f0.length y.f0 ∧ y.f0.length ≤ x0 ∧ Kd.C Kd.string w X1 y.f1.length y.f1 ∧ y.f1.length ≤ x1 ∧ Aside0 (Blk (w4.setRow w.heap.size #[.slice none 0 0, .slice none 0 0, .string ⟨#[]⟩]) w.heap.size 24 #[.slice X0 y.f0.length x0, .slice X1 y.f1.length x1, .string y.f2]) := by
      rw [hy]
      exact ⟨none, 0, none, 0, Kd.C_nil _ _, Nat.le_refl _, Kd.C_nil _ _, Nat.le_refl _, ⟨BC4.out.setRow_ _⟩⟩
    have BDE := Aside0.mk (BD4.out.setRow_far (k := w.heap.size) (by omega) #[.slice none 0 0, .slice none 0 0, .string ⟨#[]⟩])
    have BRE := Aside0.mk (BR4.out.setRow_far (k := w.heap.size) (by omega) #[.slice none 0 0, .slice none 0 0, .string ⟨#[]⟩])
    have WE := Aside0.mk (below_setRow' W4.out (Nat.le_refl _) #[.slice none 0 0, .slice none 0 0, .string ⟨#[]⟩])
    have BC4' := BC4
    generalize hwE : w4.setRow w.heap.size #[.slice none 0 0, .slice none 0 0, .string ⟨#[]⟩] = wE at BYE BDE BRE WE
    have HWE := Aside0.mk hwE
    clear BC1 BC2 BC3 BD1 BD2 BD3 BD4 BR1 BR2 BR3 BR4 W1 W2 W3 W4 hy SUM q qe hwE nothing_calls
    have yc0 : wE.cell? ⟨w.heap.size, 0, none⟩ = some (.slice X0 y.f0.length x0) := BYE.out.cell 0
    have dc1 : wE.cell? ⟨w.heap.size + 1, 32, none⟩ = some (.slice U1 r1.length u1) := (BDE.out.cell 32).trans A32.out
    go_wp2_with (first | (refine wpList_store_row rfl 24 (.tmp 2) (.tmp 20) rfl w.heap.size #[.slice none 0 0, .slice none 0 0, .string ⟨#[]⟩] rfl rfl 24 _ BC4'.out (by kernel_rfl) (by kernel_rfl) (by kernel_rfl) ?_; rw [HWE.out]) | ((with_reducible refine (delta_done.calls K X0 x0 y.f0 U1 u1 r1 y0 0 _ (Kd.C_below hX0 WE.out) hx0 (Kd.C_below hU1 WE.out) hu1 hd0).mono ?_); rintro e w5 ⟨v1, rfl, hR, hb⟩; obtain ⟨Y0, d0, rfl⟩ := Kd.R_slice hR; have HLT5 := BRE.out.lt; have HLT5 := Aside0.mk HLT5; have BY5 := Aside0.mk (BYE.out.below hb BYE.out.lt); have BD5 := Aside0.mk (BDE.out.below hb BDE.out.lt); have BR5 := Aside0.mk (BRE.out.below hb BRE.out.lt); have W5 := Aside0.mk (below_then WE.out WE.out.size hb); have R05 := Aside0.mk hR; have yc1 : w5.cell? ⟨w.heap.size, 1, none⟩ = some (.slice X1 y.f1.length x1) := BY5.out.cell 1; have dc2 : w5.cell? ⟨w.heap.size + 1, 33, none⟩ = some (.slice U2 r2.length u2) := (BD5.out.cell 33).trans A33.out; clear hb hR yc0 dc1) | ((with_reducible refine (delta_done.calls K X1 x1 y.f1 U2 u2 r2 y1 0 _ (Kd.C_below hX1 W5.out) hx1 (Kd.C_below hU2 W5.out) hu2 hd1).mono ?_); rintro e w7 ⟨v2, rfl, hR, hb⟩; obtain ⟨Y1, d1, rfl⟩ := Kd.R_slice hR; have HLT6 := Aside0.mk BR5.out.lt; have BD7 := Aside0.mk (BD5.out.below hb BD5.out.lt); have BR7 := Aside0.mk (BR5.out.below hb BR5.out.lt); have W7 := Aside0.mk (below_then W5.out W5.out.size hb); have R07 := Aside0.mk (Kd.R_below R05.out hb); have R17 := Aside0.mk hR; have dc3 : w7.cell? ⟨w.heap.size + 1, 34, none⟩ = some (.string s) := (BD7.out.cell 34).trans A34.out; clear hb hR yc1 dc2))
    obtain ⟨_, m0, C0⟩ := Kd.R_reads' R07.out
    obtain ⟨_, m1, C1⟩ := Kd.R_reads' R17.out
    have C0 := Kd.C_below C0 (below_drew ((Below.refl w7.heap.size w7).alloc (Nat.le_refl _) (.cells #[.slice Y0 y0.length d0, .slice Y1 y1.length d1, .string s] 24)))
    have C1 := Kd.C_below C1 (below_drew ((Below.refl w7.heap.size w7).alloc (Nat.le_refl _) (.cells #[.slice Y0 y0.length d0, .slice Y1 y1.length d1, .string s] 24)))
    have BG20 := Aside0.mk (Blk.new w7 24 #[.slice Y0 y0.length d0, .slice Y1 y1.length d1, .string s]).drew
    have BD20 := Aside0.mk (BD7.out.alloc (.cells #[.slice Y0 y0.length d0, .slice Y1 y1.length d1, .string s] 24)).drew
    have BR20 := Aside0.mk (BR7.out.alloc (.cells #[.slice Y0 y0.length d0, .slice Y1 y1.length d1, .string s] 24)).drew
    have W20 := Aside0.mk (below_drew (W7.out.alloc W7.out.size (.cells #[.slice Y0 y0.length d0, .slice Y1 y1.length d1, .string s] 24)))
    have R020 := Kd.R_drewN (Kd.R_alloc R07.out (.cells #[.slice Y0 y0.length d0, .slice Y1 y1.length d1, .string s] 24)) 1
    have R120 := Kd.R_drewN (Kd.R_alloc R17.out (.cells #[.slice Y0 y0.length d0, .slice Y1 y1.length d1, .string s] 24)) 1
    generalize w7.alloc (.cells #[.slice Y0 y0.length d0, .slice Y1 y1.length d1, .string s] 24) = wg at BG20 BD20 BR20 W20 C0 C1 R020 R120 ⊢
    generalize w7.heap.size = g at BG20 ⊢
    have SUY : Aside0 (Calls Tryz.prog 15 #[.agg #[.slice Y0 y0.length d0, .slice Y1 y1.length d1, .string s]] wg.drew fun e w' => e = .returned (.agg (nums .u8 M).toArray) ∧ Below wg.drew.heap.size wg.drew w') := ⟨by
      rw [← HSU.out]
      exact imageSum_calls Y0 d0 y0 Y1 d1 y1 s wg.drew C0 m0 C1 m1 hLy⟩
    have R020 := Aside0.mk R020
    have R120 := Aside0.mk R120
    have M0 := Aside0.mk m0
    have M1 := Aside0.mk m1
    clear C0 C1 m0 m1 R07 R17 BD7 BR7 W7
    refine start_ (n := 5) (S := fun w' => Blk w' g 24 #[.slice Y0 y0.length d0, .slice Y1 y1.length d1, .string s] ∧ Blk w' (w.heap.size + 1) 31 (dArr L (.slice U1 r1.length u1) (.slice U2 r2.length u2) s M)) (ds := []) #[false, false, false, false, false] (by kernel_rfl) rfl rfl ⟨BG20.out, BD20.out⟩ (fun hHeld => ?_)
    refine pure_ (i := 2) (N := some 52) (v := ?_) (a' := ?_) #[false, false, true, false, false] rfl rfl (by kernel_rfl) (fun _ _ _ h => h) (Or.inl ⟨by rfl, ?_⟩) ?_ ?_
    rotate_left
    · intro w'
      go_simp
      with_reducible rfl
    rotate_left
    · simp only [Act.put, List.setIfInBounds_toArray, List.set_cons_zero, List.set_cons_succ, i64_w, i32_w]
      rfl
    refine take_ (i := 0) (N := some 50) (v := ?_) (a' := ?_) #[true, false, true, false, false] rfl rfl (by kernel_rfl) (fun _ _ _ h => h) (Or.inl ⟨by rfl, ?_⟩) hHeld ?_ ?_
    rotate_left
    · rintro w' ⟨s0, s1⟩
      refine row_loads 24 (.tmp 9) ?_ g ?_ s0 Tryz.underlying24 ?_ ?_
      · rfl
      · rfl
      · rfl
      · kernel_rfl
    rotate_left
    · simp only [Act.put, List.setIfInBounds_toArray, List.set_cons_zero, List.set_cons_succ, i64_w, i32_w]
      rfl
    refine take_ (i := 3) (N := some 53) (v := ?_) (a' := ?_) #[true, false, true, true, false] rfl rfl (by kernel_rfl) (fun _ _ _ h => h) (Or.inl ⟨by rfl, ?_⟩) hHeld ?_ ?_
    rotate_left
    · rintro w' ⟨s0, s1⟩
      refine mid_loads 28 (.tmp 52) ?_ (w.heap.size + 1) 35 ?_ (dArr_range w' _ L M hL.out.len hM.out.len _ _ s s1).2 Tryz.underlying28 ?_ ?_
      · rfl
      · rfl
      · rfl
      · rw [nums_length, hM.out.len]; kernel_rfl
    rotate_left
    · simp only [Act.put, List.setIfInBounds_toArray, List.set_cons_zero, List.set_cons_succ, i64_w, i32_w]
      rfl
    refine one_ (i := 1) (N := some 51) #[true, true, true, true, false] rfl rfl (by kernel_rfl) (by decide) (fun K hK => ?_)
    refine goes_ Tryz.func15 (by kernel_rfl) rfl #[.agg #[.slice Y0 y0.length d0, .slice Y1 y1.length d1, .string s]] (by rfl) rfl rfl (by simp only [List.map_toArray, List.map_cons, List.map_nil]; rfl) ?_
    with_reducible refine (SUY.out).mono ?_
    rintro e w8 ⟨rfl, hb⟩
    refine ⟨_, rfl, ?_⟩
    have BG21 := Aside0.mk (BG20.out.below hb BG20.out.lt)
    have BD21 := Aside0.mk (BD20.out.below hb BD20.out.lt)
    have BR21 := Aside0.mk (BR20.out.below hb BR20.out.lt)
    have W21 := Aside0.mk (below_then W20.out W20.out.size hb)
    have R021 := Aside0.mk (Kd.R_below R020.out hb)
    have R121 := Aside0.mk (Kd.R_below R120.out hb)
    clear hb
    refine hK.out _ _ ⟨BG21.out, BD21.out⟩ (fun hHeld => ?_)
    clear hK K
    refine norm_ (a' := ?_) ?_ ?_
    rotate_left
    · show Act.put _ (some 51) _ = _
      simp only [Act.put, List.setIfInBounds_toArray, List.set_cons_zero, List.set_cons_succ, i64_w, i32_w]
      rfl
    refine pure_ (i := 4) (N := some 54) (v := ?_) (a' := ?_) #[true, true, true, true, true] rfl rfl (by kernel_rfl) (fun _ _ _ h => h) (Or.inl ⟨by rfl, ?_⟩) ?_ ?_
    rotate_left
    · intro w'
      go_simp
      with_reducible rfl
    rotate_left
    · simp only [Act.put, List.setIfInBounds_toArray, List.set_cons_zero, List.set_cons_succ, i64_w, i32_w]
      rfl
    refine done_ (by kernel_rfl) ?_

    clear hHeld
    go_wp2_with (first | (refine wpList_load_row rfl 24 (.tmp 9) rfl g rfl 24 _ (0, 0) _ BG21.out Tryz.underlying24 rfl (by kernel_rfl) ?_) | (refine wpList_store_row rfl 24 (.tmp 4) (.tmp 56) rfl (w.heap.size + 1 + 1) _ rfl rfl 24 _ BR21.out (by kernel_rfl) (by kernel_rfl) (by kernel_rfl) ?_))
    have Q0 := R_setRow R021.out HLT5.out #[.slice Y0 y0.length d0, .slice Y1 y1.length d1, .string s]
    have Q1 := R_setRow R121.out HLT6.out #[.slice Y0 y0.length d0, .slice Y1 y1.length d1, .string s]
    exact bodyPost_ret (results_row_tmp (p := 4) (u := 5) (ty := 24) rfl _ _ (w.heap.size + 1 + 1) 24 _ _ rfl (BR21.out.setRow_ _) Tryz.underlying24 rfl (by kernel_rfl)) rfl ⟨Y0, d0, Y1, d1, rfl, (Kd.R_reads' Q0).2.2, (Kd.R_reads' Q0).2.1, (Kd.R_reads' Q1).2.2, (Kd.R_reads' Q1).2.1, below_setRow' W21.out (by omega) _⟩

end Go.Proofs.YtoljjgabgdifbaaGreatDoor.H

namespace Go.Proofs.YtoljjgabgdifbaaGreatDoor.H
open Go.RowKit Go.Proofs.YtoljjgabgdifbaaGreatDoorW.PrintWords Go.Proofs.YtoljjgabgdifbaaGreatDoorW.PrintLast Go.Proofs.YtoljjgabgdifbaaGreatDoorW.PrintMore
set_option linter.unusedVariables false
set_option linter.unusedSimpArgs false

end Go.Proofs.YtoljjgabgdifbaaGreatDoor.H


namespace Go.Proofs.YtoljjgabgdifbaaGreatDoor.H
open Go.RowKit Go.Proofs.YtoljjgabgdifbaaGreatDoorW.PrintWords Go.Proofs.YtoljjgabgdifbaaGreatDoorW.PrintLast Go.Proofs.YtoljjgabgdifbaaGreatDoorW.PrintMore
attribute [local go_sem] max2_int min2_int max_two min_two max_three min_three max_four min_four
set_option linter.unusedVariables false
set_option linter.unusedSimpArgs false

/-- A write, as the program reads it of a row's texts. -/
def rwOf (l : List ByteArray) (e : Int) : S46 × Bool :=
  if e = 0 ∧ l.length = 2 then (⟨(intP (rdOf ByteArray.empty l 0)).1, rdOf ByteArray.empty l 1⟩, (intP (rdOf ByteArray.empty l 0)).2 && decide (0 ≤ (intP (rdOf ByteArray.empty l 0)).1)) else (z46, false)

set_option maxHeartbeats 8000000 in
set_option maxRecDepth 100000 in
theorem readWrite_calls (k : Nat) (s : ByteArray) (l : List ByteArray) (er : Int) (w : World) (hT : num_Texts.f k s = some (l, er)) (hl : ∀ t ∈ l, t.size ≤ 281474976710656) (hv : Vars w) :
    Calls Tryz.prog 24 #[.string s] w fun e w' => e = .returned (.tuple #[.agg #[.int .i64 (rwOf l er).1.f0, .string (rwOf l er).1.f1], .bool (rwOf l er).2]) ∧ Below w.heap.size w w' := by
  have hu46 := Tryz.underlying46
  have HV := Aside0.mk hv
  clear hv
  have W0 := (Below.refl w.heap.size w).alloc (Nat.le_refl _) (.cells #[.int .i64 0, .string ⟨#[]⟩] 46)
  have B0 := Blk.new w 46 #[.int .i64 0, .string ⟨#[]⟩]
  generalize hw0 : w.alloc (.cells #[.int .i64 0, .string ⟨#[]⟩] 46) = w0 at W0 B0
  have HW0 := Aside0.mk hw0
  have TC := Aside0.mk (num_Texts.calls k s l er w0 hT)
  have W0 := Aside0.mk W0
  have B0 := Aside0.mk B0
  clear hw0
  by_cases hc : er = 0 ∧ l.length = 2
  · have e0 : rwOf l er = (⟨(intP (rdOf ByteArray.empty l 0)).1, rdOf ByteArray.empty l 1⟩, (intP (rdOf ByteArray.empty l 0)).2 && decide (0 ≤ (intP (rdOf ByteArray.empty l 0)).1)) := by rw [rwOf, if_pos hc]
    rw [e0]
    obtain ⟨rfl, h2⟩ := hc
    have hs0 : (rdOf ByteArray.empty l 0).size ≤ 281474976710656 := hl _ (by simp [rdOf, show 0 < l.length by omega])
    have c2 : ((l.length : Int) == 2) = true := by simp; omega
    have c3 : ((l.length : Int) != 2) = false := by simp; omega
    have c4 : (l.length == 2) = true := by simp; omega
    obtain ⟨a, ea⟩ : ∃ a, a = rdOf ByteArray.empty l 0 := ⟨_, rfl⟩
    obtain ⟨d, ed⟩ : ∃ a, a = rdOf ByteArray.empty l 1 := ⟨_, rfl⟩
    rw [← ea, ← ed]
    rw [← ea] at hs0
    have EA := Aside0.mk ea
    have ED := Aside0.mk ed
    clear ea ed
    have IC := int_calls a hs0
    generalize intP a = q at IC ⊢
    obtain ⟨n, bq⟩ := q
    have IC := Aside0.mk IC
    have H2 := Aside0.mk h2
    clear e0 h2 hs0 hl hT
    cases bq
    · go_enter Tryz.func24, Tryz.ntmps24
      go_wp2_with (first | (rw [show w.alloc (.cells #[.int .i64 0, .string ⟨#[]⟩] 46) = w0 from HW0.out]) | (go_at_call 22; (with_reducible refine TC.out.mono ?_); rintro e w1 ⟨v, rfl, hR, hb⟩; obtain ⟨A, c, rfl, hlc, hC⟩ := R_slice hR; have W1 := Aside0.mk (below_then W0.out W0.out.size hb); have B1 := Aside0.mk (B0.out.below hb B0.out.lt); have V1 := Aside0.mk (Vars.below HV.out W1.out); obtain ⟨ad, eA, hx0⟩ := Kd.at_string hC (0 : Int) (by omega) (by have := H2.out; omega); cases eA; obtain ⟨ad', eA', hx1⟩ := Kd.at_string hC (1 : Int) (by omega) (by have := H2.out; omega); cases eA'; rw [← EA.out] at hx0; rw [← ED.out] at hx1; replace hx0 : w1.cell? ad = some (.string a) := hx0; replace hx1 : w1.cell? { block := ad.block, off := ad.off + 1 } = some (.string d) := hx1; have p0 := eq_true (show (0 : Int) < (l.length : Int) by have := H2.out; omega); have p1 := eq_true (show (1 : Int) < (l.length : Int) by have := H2.out; omega); have p2 := eq_true (show 0 < l.length by have := H2.out; omega); have p3 := eq_true (show 1 < l.length by have := H2.out; omega); clear hR hb hC hlc TC) | (go_at_call 40; (with_reducible refine (IC.out _ V1.out).mono ?_); rintro e w2 ⟨rfl, hb⟩; have W2 := Aside0.mk (below_then W1.out W1.out.size hb); have B2 := Aside0.mk (B1.out.below hb B1.out.lt); replace hx1 := (hb.cell (World.block_lt_of_cell? _ _ hx1)).trans hx1; clear hb) | (refine wpList_store_row rfl 46 (.tmp 2) (.tmp 32) rfl w.heap.size #[.int .i64 n, .string d] rfl rfl 46 _ B2.out (by kernel_rfl) (by kernel_rfl) (by kernel_rfl) ?_))
      go_wp2_with fail
      exact bodyPost_ret (results_row_tmp (p := 2) (u := 3) (ty := 46) rfl _ _ w.heap.size 46 _ _ rfl (B2.out.setRow_ _) Tryz.underlying46 rfl (by kernel_rfl)) rfl ⟨rfl, below_setRow' W2.out (Nat.le_refl _) _⟩
    · go_enter Tryz.func24, Tryz.ntmps24
      go_wp2_with (first | (rw [show w.alloc (.cells #[.int .i64 0, .string ⟨#[]⟩] 46) = w0 from HW0.out]) | (go_at_call 22; (with_reducible refine TC.out.mono ?_); rintro e w1 ⟨v, rfl, hR, hb⟩; obtain ⟨A, c, rfl, hlc, hC⟩ := R_slice hR; have W1 := Aside0.mk (below_then W0.out W0.out.size hb); have B1 := Aside0.mk (B0.out.below hb B0.out.lt); have V1 := Aside0.mk (Vars.below HV.out W1.out); obtain ⟨ad, eA, hx0⟩ := Kd.at_string hC (0 : Int) (by omega) (by have := H2.out; omega); cases eA; obtain ⟨ad', eA', hx1⟩ := Kd.at_string hC (1 : Int) (by omega) (by have := H2.out; omega); cases eA'; rw [← EA.out] at hx0; rw [← ED.out] at hx1; replace hx0 : w1.cell? ad = some (.string a) := hx0; replace hx1 : w1.cell? { block := ad.block, off := ad.off + 1 } = some (.string d) := hx1; have p0 := eq_true (show (0 : Int) < (l.length : Int) by have := H2.out; omega); have p1 := eq_true (show (1 : Int) < (l.length : Int) by have := H2.out; omega); have p2 := eq_true (show 0 < l.length by have := H2.out; omega); have p3 := eq_true (show 1 < l.length by have := H2.out; omega); clear hR hb hC hlc TC) | (go_at_call 40; (with_reducible refine (IC.out _ V1.out).mono ?_); rintro e w2 ⟨rfl, hb⟩; have W2 := Aside0.mk (below_then W1.out W1.out.size hb); have B2 := Aside0.mk (B1.out.below hb B1.out.lt); replace hx1 := (hb.cell (World.block_lt_of_cell? _ _ hx1)).trans hx1; clear hb) | (refine wpList_store_row rfl 46 (.tmp 2) (.tmp 32) rfl w.heap.size #[.int .i64 n, .string d] rfl rfl 46 _ B2.out (by kernel_rfl) (by kernel_rfl) (by kernel_rfl) ?_))
      go_wp2_with fail
      exact bodyPost_ret (results_row_tmp (p := 2) (u := 3) (ty := 46) rfl _ _ w.heap.size 46 _ _ rfl (B2.out.setRow_ _) Tryz.underlying46 rfl (by kernel_rfl)) rfl ⟨rfl, below_setRow' W2.out (Nat.le_refl _) _⟩
  · have e0 : rwOf l er = (z46, false) := by rw [rwOf, if_neg hc]
    rw [e0]
    by_cases h1 : er = 0
    · subst h1
      have h2 : l.length ≠ 2 := fun h => hc ⟨rfl, h⟩
      have c2 : ((l.length : Int) == 2) = false := by simp; omega
      have c3 : ((l.length : Int) != 2) = true := by simp; omega
      have c4 : (l.length == 2) = false := by simpa using h2
      clear e0 h2 hl hT hc
      go_enter Tryz.func24, Tryz.ntmps24
      go_wp2_with (first | (rw [show w.alloc (.cells #[.int .i64 0, .string ⟨#[]⟩] 46) = w0 from HW0.out]) | (go_at_call 22; (with_reducible refine TC.out.mono ?_); rintro e w1 ⟨v, rfl, hR, hb⟩; obtain ⟨A, c, rfl, hlc, hC⟩ := R_slice hR; have W1 := Aside0.mk (below_then W0.out W0.out.size hb); have B1 := Aside0.mk (B0.out.below hb B0.out.lt); clear hR hb hC hlc TC) | (refine wpList_store_row rfl 46 (.tmp 2) (.tmp 20) rfl w.heap.size #[.int .i64 0, .string ⟨#[]⟩] rfl rfl 46 _ B1.out (by kernel_rfl) (by kernel_rfl) (by kernel_rfl) ?_))
      go_wp2_with fail
      exact bodyPost_ret (results_row_tmp (p := 2) (u := 3) (ty := 46) rfl _ _ w.heap.size 46 _ _ rfl (B1.out.setRow_ _) Tryz.underlying46 rfl (by kernel_rfl)) rfl ⟨rfl, below_setRow' W1.out (Nat.le_refl _) _⟩
    · have c2 : (er == 0) = false := by simpa using h1
      have c3 : (er != 0) = true := by simpa using h1
      clear e0 hl hT hc
      go_enter Tryz.func24, Tryz.ntmps24
      go_wp2_with (first | (rw [show w.alloc (.cells #[.int .i64 0, .string ⟨#[]⟩] 46) = w0 from HW0.out]) | (go_at_call 22; (with_reducible refine TC.out.mono ?_); rintro e w1 ⟨v, rfl, hR, hb⟩; obtain ⟨A, c, rfl, hlc, hC⟩ := R_slice hR; have W1 := Aside0.mk (below_then W0.out W0.out.size hb); have B1 := Aside0.mk (B0.out.below hb B0.out.lt); clear hR hb hC hlc TC) | (refine wpList_store_row rfl 46 (.tmp 2) (.tmp 20) rfl w.heap.size #[.int .i64 0, .string ⟨#[]⟩] rfl rfl 46 _ B1.out (by kernel_rfl) (by kernel_rfl) (by kernel_rfl) ?_))
      go_wp2_with fail
      exact bodyPost_ret (results_row_tmp (p := 2) (u := 3) (ty := 46) rfl _ _ w.heap.size 46 _ _ rfl (B1.out.setRow_ _) Tryz.underlying46 rfl (by kernel_rfl)) rfl ⟨rfl, below_setRow' W1.out (Nat.le_refl _) _⟩
end Go.Proofs.YtoljjgabgdifbaaGreatDoor.H

