/- Layer 35's statement DeltaFew: the walk. -/
import Derived.Test.YtoljjgabgdifbaaH14
namespace Go.Proofs.Ytoljjgabgdifbaa.H
open Go.RowKit Go.Proofs.YtoljjgabgdifbaaW.PrintWords Go.Proofs.YtoljjgabgdifbaaW.PrintLast Go.Proofs.YtoljjgabgdifbaaW.PrintMore
set_option linter.unusedVariables false
set_option linter.unusedSimpArgs false

theorem imgs2 {w : World} {g : Nat} (A0 : Option Addr) (c0 : Nat) (A1 : Option Addr) (c1 : Nat) (a : S24) (P0 : Option Addr) (p0 : Nat) (P1 : Option Addr) (p1 : Nat) (b : S24)
    (hA0 : Kd.C Kd.string w A0 a.f0.length a.f0) (ha0 : a.f0.length ≤ c0) (hA1 : Kd.C Kd.string w A1 a.f1.length a.f1) (ha1 : a.f1.length ≤ c1)
    (hP0 : Kd.C Kd.string w P0 b.f0.length b.f0) (hp0 : b.f0.length ≤ p0) (hP1 : Kd.C Kd.string w P1 b.f1.length b.f1) (hp1 : b.f1.length ≤ p1)
    (h : Blk w g 24 #[.slice A0 a.f0.length c0, .slice A1 a.f1.length c1, .string a.f2, .slice P0 b.f0.length p0, .slice P1 b.f1.length p1, .string b.f2]) : Kd.C k24 w (some ⟨g, 0, none⟩) [a, b].length [a, b] := by
  refine ⟨rfl, by simp, fun _ => ⟨_, rfl, fun j p hp => ?_⟩⟩
  match j, hp with
  | 0, hp =>
    obtain rfl : a = p := by simpa using hp
    refine ⟨[.slice A0 a.f0.length c0, .slice A1 a.f1.length c1, .string a.f2], rfl, k24_mk w a ha0 hA0 ha1 hA1, fun i u hu => ?_⟩
    rw [add_plain, h.cell]
    match i, hu with
    | 0, hu => exact hu
    | 1, hu => exact hu
    | 2, hu => exact hu
    | i + 3, hu => simp at hu
  | 1, hp =>
    obtain rfl : b = p := by simpa using hp
    refine ⟨[.slice P0 b.f0.length p0, .slice P1 b.f1.length p1, .string b.f2], rfl, k24_mk w b hp0 hP0 hp1 hP1, fun i u hu => ?_⟩
    rw [add_plain, h.cell]
    match i, hu with
    | 0, hu => exact hu
    | 1, hu => exact hu
    | 2, hu => exact hu
    | i + 3, hu => simp at hu
  | j + 2, hp => simp at hp

set_option maxRecDepth 100000 in
set_option maxHeartbeats 8000000 in
theorem few_calls (A0 : Option Addr) (c0 : Nat) (A1 : Option Addr) (c1 : Nat) (a : S24) (P0 : Option Addr) (p0 : Nat) (P1 : Option Addr) (p1 : Nat) (b : S24) (w : World)
    (hA0 : Kd.C Kd.string w A0 a.f0.length a.f0) (ha0 : a.f0.length ≤ c0) (hA1 : Kd.C Kd.string w A1 a.f1.length a.f1) (ha1 : a.f1.length ≤ c1)
    (hP0 : Kd.C Kd.string w P0 b.f0.length b.f0) (hp0 : b.f0.length ≤ p0) (hP1 : Kd.C Kd.string w P1 b.f1.length b.f1) (hp1 : b.f1.length ≤ p1)
    (hLa : (imageL a.f0 a.f1 a.f2).length ≤ 140737488355328) (hLb : (imageL b.f0 b.f1 b.f2).length ≤ 140737488355328)
    (hm : a.f0.length ≤ 5864062014805 ∧ a.f1.length ≤ 5864062014805 ∧ b.f0.length ≤ 5864062014805 ∧ b.f1.length ≤ 5864062014805) :
    Calls Try.prog 4 #[.agg #[.slice A0 a.f0.length c0, .slice A1 a.f1.length c1, .string a.f2], .agg #[.slice P0 b.f0.length p0, .slice P1 b.f1.length p1, .string b.f2]] w fun e w' => e = .returned (.bool true) ∧ Below w.heap.size w w' := by
  have BA := Blk.new w 24 #[.slice A0 a.f0.length c0, .slice A1 a.f1.length c1, .string a.f2]
  have BB := Blk.new (w.alloc (.cells #[.slice A0 a.f0.length c0, .slice A1 a.f1.length c1, .string a.f2] 24)) 24 #[.slice P0 b.f0.length p0, .slice P1 b.f1.length p1, .string b.f2]
  have BA := BA.alloc (.cells #[.slice P0 b.f0.length p0, .slice P1 b.f1.length p1, .string b.f2] 24)
  have W0 := ((Below.refl w.heap.size w).alloc (Nat.le_refl _) (.cells #[.slice A0 a.f0.length c0, .slice A1 a.f1.length c1, .string a.f2] 24)).alloc (by simp) (.cells #[.slice P0 b.f0.length p0, .slice P1 b.f1.length p1, .string b.f2] 24)
  rw [sz] at BB
  generalize hw0 : ((w.alloc (.cells #[.slice A0 a.f0.length c0, .slice A1 a.f1.length c1, .string a.f2] 24)).alloc (.cells #[.slice P0 b.f0.length p0, .slice P1 b.f1.length p1, .string b.f2] 24)) = w0 at BA BB W0
  have HW0 := Aside0.mk hw0
  clear hw0
  obtain ⟨kg, rg, hg⟩ := great_f 5864062014805 [a, b] (by simp) (by simp; omega) (Nat.le_refl _)
  have W1 := W0.alloc (by have := W0.size; omega) (.cells #[.slice A0 a.f0.length c0, .slice A1 a.f1.length c1, .string a.f2, .slice P0 b.f0.length p0, .slice P1 b.f1.length p1, .string b.f2] 24)
  have G1 := imgs2 A0 c0 A1 c1 a P0 p0 P1 p1 b (Kd.C_below hA0 W1) ha0 (Kd.C_below hA1 W1) ha1 (Kd.C_below hP0 W1) hp0 (Kd.C_below hP1 W1) hp1 (Blk.new w0 24 _)
  have BA1 := Aside0.mk (BA.alloc (.cells #[.slice A0 a.f0.length c0, .slice A1 a.f1.length c1, .string a.f2, .slice P0 b.f0.length p0, .slice P1 b.f1.length p1, .string b.f2] 24))
  have BB1 := Aside0.mk (BB.alloc (.cells #[.slice A0 a.f0.length c0, .slice A1 a.f1.length c1, .string a.f2, .slice P0 b.f0.length p0, .slice P1 b.f1.length p1, .string b.f2] 24))
  have W1 := Aside0.mk W1
  have GC := Aside0.mk (hibernaclelaw35_great.calls kg _ 2 [a, b] rg _ G1 (by simp) hg)
  have BA := Aside0.mk BA
  have BB := Aside0.mk BB
  have W0 := Aside0.mk W0
  go_enter Try.func4, Try.ntmps4
  go_wp2_with (first | (rw [show ((w.alloc (.cells #[.slice A0 a.f0.length c0, .slice A1 a.f1.length c1, .string a.f2] 24)).alloc (.cells #[.slice P0 b.f0.length p0, .slice P1 b.f1.length p1, .string b.f2] 24)) = w0 from HW0.out]) | (refine wpList_load_row rfl 24 (.tmp 2) rfl w.heap.size rfl 24 _ (0, 0) _ BA.out Try.underlying24 rfl (by kernel_rfl) ?_) | (refine wpList_load_row rfl 24 (.tmp 3) rfl (w.heap.size + 1) rfl 24 _ (0, 0) _ BB.out Try.underlying24 rfl (by kernel_rfl) ?_))
  have e1 : ∀ l : List ByteArray, ∀ m : List ByteArray, l.length = m.length ∨ l.length ≠ m.length := fun l m => by omega
  refine (GC.out).mono ?_
  rintro e w2 ⟨rfl, hb⟩
  have qa := Aside0.mk (BA1.out.below hb BA1.out.lt)
  have qb := Aside0.mk (BB1.out.below hb BB1.out.lt)
  have W2 := Aside0.mk (below_then W1.out W1.out.size hb)
  clear hb GC G1 BA BB W0 BA1 BB1 W1 HW0 hg
  have qa0 : w2.cell? ⟨w.heap.size, 0, none⟩ = some (.slice A0 a.f0.length c0) := qa.out.cell 0
  have qa1 : w2.cell? ⟨w.heap.size, 1, none⟩ = some (.slice A1 a.f1.length c1) := qa.out.cell 1
  have qb0 : w2.cell? ⟨w.heap.size + 1, 0, none⟩ = some (.slice P0 b.f0.length p0) := qb.out.cell 0
  have qb1 : w2.cell? ⟨w.heap.size + 1, 1, none⟩ = some (.slice P1 b.f1.length p1) := qb.out.cell 1
  cases rg with
  | true =>
    go_wp2_with ((with_reducible refine (fixed_calls _).mono ?_); rintro e w3 ⟨rfl, hb⟩; have W3 := Aside0.mk (below_then W2.out W2.out.size hb); clear hb)
    go_wp2_with fail
    go_ret
    exact ⟨rfl, W3.out⟩
  | false =>
    by_cases t0 : a.f0.length = b.f0.length
    · by_cases t1 : a.f1.length = b.f1.length
      · have n0 : ((a.f0.length : Int) != (b.f0.length : Int)) = false := by simp only [bne_eq_false_iff_eq]; omega
        have n1 : ((a.f1.length : Int) != (b.f1.length : Int)) = false := by simp only [bne_eq_false_iff_eq]; omega
        have ea : aOf a b = a := by rw [aOf, if_neg (by omega)]
        have OC := of_calls 5864062014806 A0 c0 A1 c1 a P0 p0 P1 p1 b (chg a.f0 b.f0 b.f0.length) (chg a.f1 b.f1 b.f1.length) w2 (Kd.C_below hA0 W2.out) ha0 (Kd.C_below hA1 W2.out) ha1 (Kd.C_below hP0 W2.out) hp0 (Kd.C_below hP1 W2.out) hp1 hLa hLb (by rw [ea]; exact writes_f _ _ (by omega) (by omega)) (by rw [ea]; exact writes_f _ _ (by omega) (by omega))
        rw [ea] at OC
        have OC := Aside0.mk OC
        have T0 := Aside0.mk t0
        have T1 := Aside0.mk t1
        clear t0 t1 ea
        generalize hr1 : chg a.f0 b.f0 b.f0.length = r1 at OC
        generalize hr2 : chg a.f1 b.f1 b.f1.length = r2 at OC
        have HR1 := Aside0.mk hr1
        have HR2 := Aside0.mk hr2
        clear hr1 hr2
        have LL := Aside0.mk (imgSum_len a.f0 a.f1 a.f2)
        have LM := Aside0.mk (imgSum_len b.f0 b.f1 b.f2)
        generalize imgSum a.f0 a.f1 a.f2 = L at OC LL
        generalize imgSum b.f0 b.f1 b.f2 = M at OC LM
        go_wp2_with (first | (refine wpList_load_row rfl 24 (.tmp 2) rfl w.heap.size rfl 24 _ (0, 0) _ qa.out Try.underlying24 rfl (by kernel_rfl) ?_) | (refine wpList_load_row rfl 24 (.tmp 3) rfl (w.heap.size + 1) rfl 24 _ (0, 0) _ qb.out Try.underlying24 rfl (by kernel_rfl) ?_) | ((with_reducible refine OC.out.mono ?_); rintro e w3 ⟨U1, u1, U2, u2, rfl, hR1, hR2, hb⟩; have R1 := Aside0.mk hR1; have R2 := Aside0.mk hR2; have qa3 := Aside0.mk (qa.out.below hb qa.out.lt); have qb3 := Aside0.mk (qb.out.below hb qb.out.lt); have W3 := Aside0.mk (below_then W2.out W2.out.size hb); have D3 := Aside0.mk (Blk.new w3 32 Try.zeroCells32); clear hR1 hR2 hb) | (refine wpList_store_row rfl 32 (.tmp 5) (.tmp 35) rfl w3.heap.size _ rfl rfl 32 _ D3.out (by rw [dArr_size LL.out LM.out]; kernel_rfl) (by rw [dArr_size LL.out LM.out]; kernel_rfl) (dArr_one _ _ _ _ _ _ _ _ _) ?_; have qa5 := Aside0.mk ((qa3.out.alloc (.cells Try.zeroCells32 32)).setRow_far (k := w3.heap.size) (by have := qa3.out.lt; omega) (dArr L (.slice U1 r1.length u1) (.slice U2 r2.length u2) b.f2 M)); have qb5 := Aside0.mk ((qb3.out.alloc (.cells Try.zeroCells32 32)).setRow_far (k := w3.heap.size) (by have := qb3.out.lt; omega) (dArr L (.slice U1 r1.length u1) (.slice U2 r2.length u2) b.f2 M)); have E5 := Aside0.mk (D3.out.setRow_ (dArr L (.slice U1 r1.length u1) (.slice U2 r2.length u2) b.f2 M)); have R15 := Aside0.mk (R_setRowT (Kd.R_alloc R1.out (.cells Try.zeroCells32 32)) D3.out (by decide) (dArr L (.slice U1 r1.length u1) (.slice U2 r2.length u2) b.f2 M)); have R25 := Aside0.mk (R_setRowT (Kd.R_alloc R2.out (.cells Try.zeroCells32 32)) D3.out (by decide) (dArr L (.slice U1 r1.length u1) (.slice U2 r2.length u2) b.f2 M)); have W5 := Aside0.mk (below_setRow' (W3.out.alloc W3.out.size (.cells Try.zeroCells32 32)) W3.out.size (dArr L (.slice U1 r1.length u1) (.slice U2 r2.length u2) b.f2 M)); generalize (w3.alloc (.cells Try.zeroCells32 32)).setRow w3.heap.size (dArr L (.slice U1 r1.length u1) (.slice U2 r2.length u2) b.f2 M) = w5 at qa5 qb5 E5 R15 R25 W5 ⊢; generalize w3.heap.size = g at E5 ⊢; clear qa qb qa3 qb3 D3 R1 R2 W2 W3 qa0 qa1 qb0 qb1; have qb50 : w5.cell? ⟨w.heap.size + 1, 0, none⟩ = some (.slice P0 b.f0.length p0) := qb5.out.cell 0))
        have e51 : w5.cell? ⟨g, 32, none⟩ = some (.slice U1 r1.length u1) := (E5.out.cell 32).trans (dArr_f1 LL.out)
        have e52 : w5.cell? ⟨g, 33, none⟩ = some (.slice U2 r2.length u2) := (E5.out.cell 33).trans (dArr_f2 LL.out)
        clear OC LL LM
        go_loopg [6, 39] b.f0.length (fun gk v6 v39 wl => ∃ i : Nat, v39 = .int .i64 i ∧ v6 = .int .i64 ((chg a.f0 b.f0 i).length : Nat) ∧ Aside0 (i + gk = b.f0.length) ∧ Drawn0 w5 wl)
        case atStart => exact ⟨0, rfl, rfl, ⟨by omega⟩, Drawn0.refl _⟩
        case round =>
          obtain ⟨i, rfl, rfl, hi, ⟨m, rfl⟩⟩ := hrel
          by_cases hlt : i < b.f0.length
          · have lt1 := eq_true (show (i : Int) < (b.f0.length : Int) by omega)
            have lt2 := eq_true (show (i : Int) < (a.f0.length : Int) by have := T0.out; omega)
            have lt3 := eq_true (show (0 : Int) ≤ (i : Int) by omega)
            obtain ⟨ada, eA, xa⟩ := Kd.at_string (Kd.C_below hA0 W5.out) (i : Int) (by omega) (by have := T0.out; omega)
            obtain ⟨adb, eB, xb⟩ := Kd.at_string (Kd.C_below hP0 W5.out) (i : Int) (by omega) (by omega)
            cases eA
            cases eB
            rw [rdOf_at, Int.toNat_natCast] at xa xb
            by_cases un : (at_ a.f0 i).toList = (at_ b.f0 i).toList
            · have ub : ((at_ a.f0 i).toList == (at_ b.f0 i).toList) = true := beq_iff_eq.mpr un
              have ub2 : (!((at_ a.f0 i).toList == (at_ b.f0 i).toList)) = false := by rw [ub]; rfl
              have ub3 : ((at_ a.f0 i).toList != (at_ b.f0 i).toList) = false := bne_eq_false_iff_eq.mpr un
              go_wp2_with fail
              refine start_ (n := 11) (S := fun w' => w'.cell? ⟨w.heap.size, 0, none⟩ = some (.slice (some ada) a.f0.length c0) ∧ w'.cell? ⟨w.heap.size + 1, 0, none⟩ = some (.slice (some adb) b.f0.length p0) ∧ w'.cell? (ada.add i) = some (.string (at_ a.f0 i)) ∧ w'.cell? (adb.add i) = some (.string (at_ b.f0 i))) (ds := []) #[false, false, false, false, false, false, false, false, false, false, false] (by kernel_rfl) rfl rfl ⟨(qa5.out.cell 0), (qb5.out.cell 0), xa, xb⟩ (fun hHeld => ?_)
              refine pure_ (i := 0) (N := some 42) (v := ?_) (a' := ?_) #[true, false, false, false, false, false, false, false, false, false, false] rfl rfl (by kernel_rfl) (fun _ _ _ h => h) (Or.inl ⟨by rfl, ?_⟩) ?_ ?_
              rotate_left
              · intro w'
                go_simp
                with_reducible rfl
              rotate_left
              · simp only [Act.put, List.setIfInBounds_toArray, List.set_cons_zero, List.set_cons_succ, i64_w, i32_w]
                rfl
              refine pure_ (i := 2) (N := some 44) (v := ?_) (a' := ?_) #[true, false, true, false, false, false, false, false, false, false, false] rfl rfl (by kernel_rfl) (fun _ _ _ h => h) (Or.inl ⟨by rfl, ?_⟩) ?_ ?_
              rotate_left
              · intro w'
                go_simp
                with_reducible rfl
              rotate_left
              · simp only [Act.put, List.setIfInBounds_toArray, List.set_cons_zero, List.set_cons_succ, i64_w, i32_w]
                rfl
              refine pure_ (i := 5) (N := some 47) (v := ?_) (a' := ?_) #[true, false, true, false, false, true, false, false, false, false, false] rfl rfl (by kernel_rfl) (fun _ _ _ h => h) (Or.inl ⟨by rfl, ?_⟩) ?_ ?_
              rotate_left
              · intro w'
                go_simp
                with_reducible rfl
              rotate_left
              · simp only [Act.put, List.setIfInBounds_toArray, List.set_cons_zero, List.set_cons_succ, i64_w, i32_w]
                rfl
              refine pure_ (i := 7) (N := some 49) (v := ?_) (a' := ?_) #[true, false, true, false, false, true, false, true, false, false, false] rfl rfl (by kernel_rfl) (fun _ _ _ h => h) (Or.inl ⟨by rfl, ?_⟩) ?_ ?_
              rotate_left
              · intro w'
                go_simp
                with_reducible rfl
              rotate_left
              · simp only [Act.put, List.setIfInBounds_toArray, List.set_cons_zero, List.set_cons_succ, i64_w, i32_w]
                rfl
              refine take_ (i := 1) (N := some 43) (v := ?_) (a' := ?_) #[true, true, true, false, false, true, false, true, false, false, false] rfl rfl (by kernel_rfl) (fun _ _ _ h => h) (Or.inl ⟨by rfl, ?_⟩) hHeld ?_ ?_
              rotate_left
              · rintro w' ⟨s0, s1, s2, s3⟩
                go_simp
                with_reducible rfl
              rotate_left
              · simp only [Act.put, List.setIfInBounds_toArray, List.set_cons_zero, List.set_cons_succ, i64_w, i32_w]
                rfl
              refine pure_ (i := 3) (N := some 45) (v := ?_) (a' := ?_) #[true, true, true, true, false, true, false, true, false, false, false] rfl rfl (by kernel_rfl) (fun _ _ _ h => h) (Or.inl ⟨by rfl, ?_⟩) ?_ ?_
              rotate_left
              · intro w'
                go_simp
                with_reducible rfl
              rotate_left
              · simp only [Act.put, List.setIfInBounds_toArray, List.set_cons_zero, List.set_cons_succ, i64_w, i32_w]
                rfl
              refine take_ (i := 4) (N := some 46) (v := ?_) (a' := ?_) #[true, true, true, true, true, true, false, true, false, false, false] rfl rfl (by kernel_rfl) (fun _ _ _ h => h) (Or.inl ⟨by rfl, ?_⟩) hHeld ?_ ?_
              rotate_left
              · rintro w' ⟨s0, s1, s2, s3⟩
                go_simp
                with_reducible rfl
              rotate_left
              · simp only [Act.put, List.setIfInBounds_toArray, List.set_cons_zero, List.set_cons_succ, i64_w, i32_w]
                rfl
              refine take_ (i := 6) (N := some 48) (v := ?_) (a' := ?_) #[true, true, true, true, true, true, true, true, false, false, false] rfl rfl (by kernel_rfl) (fun _ _ _ h => h) (Or.inl ⟨by rfl, ?_⟩) hHeld ?_ ?_
              rotate_left
              · rintro w' ⟨s0, s1, s2, s3⟩
                go_simp
                with_reducible rfl
              rotate_left
              · simp only [Act.put, List.setIfInBounds_toArray, List.set_cons_zero, List.set_cons_succ, i64_w, i32_w]
                rfl
              refine pure_ (i := 8) (N := some 50) (v := ?_) (a' := ?_) #[true, true, true, true, true, true, true, true, true, false, false] rfl rfl (by kernel_rfl) (fun _ _ _ h => h) (Or.inl ⟨by rfl, ?_⟩) ?_ ?_
              rotate_left
              · intro w'
                go_simp
                with_reducible rfl
              rotate_left
              · simp only [Act.put, List.setIfInBounds_toArray, List.set_cons_zero, List.set_cons_succ, i64_w, i32_w]
                rfl
              refine take_ (i := 9) (N := some 51) (v := ?_) (a' := ?_) #[true, true, true, true, true, true, true, true, true, true, false] rfl rfl (by kernel_rfl) (fun _ _ _ h => h) (Or.inl ⟨by rfl, ?_⟩) hHeld ?_ ?_
              rotate_left
              · rintro w' ⟨s0, s1, s2, s3⟩
                go_simp
                with_reducible rfl
              rotate_left
              · simp only [Act.put, List.setIfInBounds_toArray, List.set_cons_zero, List.set_cons_succ, i64_w, i32_w]
                rfl
              refine pure_ (i := 10) (N := some 52) (v := ?_) (a' := ?_) #[true, true, true, true, true, true, true, true, true, true, true] rfl rfl (by kernel_rfl) (fun _ _ _ h => h) (Or.inl ⟨by rfl, ?_⟩) ?_ ?_
              rotate_left
              · intro w'
                go_simp
                with_reducible rfl
              rotate_left
              · simp only [Act.put, List.setIfInBounds_toArray, List.set_cons_zero, List.set_cons_succ, i64_w, i32_w]
                rfl
              refine done_ (by kernel_rfl) ?_

              clear hHeld
              have ec : chg a.f0 b.f0 (i + 1) = chg a.f0 b.f0 i := by rw [chg, if_neg]; have := T0.out; simp [unlike, un]; omega
              go_wp2_with fail
              go_roundg (b.f0.length - i - 1)
              case measure => have := hi.out; omega
              case rel => exact ⟨i + 1, by go_num, by rw [ec], ⟨by have := hi.out; omega⟩, by repeat (first | exact Drawn0.refl _ | apply Drawn0.step)⟩
            · have ub : ((at_ a.f0 i).toList == (at_ b.f0 i).toList) = false := beq_eq_false_iff_ne.mpr un
              have ub2 : (!((at_ a.f0 i).toList == (at_ b.f0 i).toList)) = true := by rw [ub]; rfl
              have ub3 : ((at_ a.f0 i).toList != (at_ b.f0 i).toList) = true := bne_iff_ne.mpr un
              go_wp2_with fail
              refine start_ (n := 11) (S := fun w' => w'.cell? ⟨w.heap.size, 0, none⟩ = some (.slice (some ada) a.f0.length c0) ∧ w'.cell? ⟨w.heap.size + 1, 0, none⟩ = some (.slice (some adb) b.f0.length p0) ∧ w'.cell? (ada.add i) = some (.string (at_ a.f0 i)) ∧ w'.cell? (adb.add i) = some (.string (at_ b.f0 i))) (ds := []) #[false, false, false, false, false, false, false, false, false, false, false] (by kernel_rfl) rfl rfl ⟨(qa5.out.cell 0), (qb5.out.cell 0), xa, xb⟩ (fun hHeld => ?_)
              refine pure_ (i := 0) (N := some 42) (v := ?_) (a' := ?_) #[true, false, false, false, false, false, false, false, false, false, false] rfl rfl (by kernel_rfl) (fun _ _ _ h => h) (Or.inl ⟨by rfl, ?_⟩) ?_ ?_
              rotate_left
              · intro w'
                go_simp
                with_reducible rfl
              rotate_left
              · simp only [Act.put, List.setIfInBounds_toArray, List.set_cons_zero, List.set_cons_succ, i64_w, i32_w]
                rfl
              refine pure_ (i := 2) (N := some 44) (v := ?_) (a' := ?_) #[true, false, true, false, false, false, false, false, false, false, false] rfl rfl (by kernel_rfl) (fun _ _ _ h => h) (Or.inl ⟨by rfl, ?_⟩) ?_ ?_
              rotate_left
              · intro w'
                go_simp
                with_reducible rfl
              rotate_left
              · simp only [Act.put, List.setIfInBounds_toArray, List.set_cons_zero, List.set_cons_succ, i64_w, i32_w]
                rfl
              refine pure_ (i := 5) (N := some 47) (v := ?_) (a' := ?_) #[true, false, true, false, false, true, false, false, false, false, false] rfl rfl (by kernel_rfl) (fun _ _ _ h => h) (Or.inl ⟨by rfl, ?_⟩) ?_ ?_
              rotate_left
              · intro w'
                go_simp
                with_reducible rfl
              rotate_left
              · simp only [Act.put, List.setIfInBounds_toArray, List.set_cons_zero, List.set_cons_succ, i64_w, i32_w]
                rfl
              refine pure_ (i := 7) (N := some 49) (v := ?_) (a' := ?_) #[true, false, true, false, false, true, false, true, false, false, false] rfl rfl (by kernel_rfl) (fun _ _ _ h => h) (Or.inl ⟨by rfl, ?_⟩) ?_ ?_
              rotate_left
              · intro w'
                go_simp
                with_reducible rfl
              rotate_left
              · simp only [Act.put, List.setIfInBounds_toArray, List.set_cons_zero, List.set_cons_succ, i64_w, i32_w]
                rfl
              refine take_ (i := 1) (N := some 43) (v := ?_) (a' := ?_) #[true, true, true, false, false, true, false, true, false, false, false] rfl rfl (by kernel_rfl) (fun _ _ _ h => h) (Or.inl ⟨by rfl, ?_⟩) hHeld ?_ ?_
              rotate_left
              · rintro w' ⟨s0, s1, s2, s3⟩
                go_simp
                with_reducible rfl
              rotate_left
              · simp only [Act.put, List.setIfInBounds_toArray, List.set_cons_zero, List.set_cons_succ, i64_w, i32_w]
                rfl
              refine pure_ (i := 3) (N := some 45) (v := ?_) (a' := ?_) #[true, true, true, true, false, true, false, true, false, false, false] rfl rfl (by kernel_rfl) (fun _ _ _ h => h) (Or.inl ⟨by rfl, ?_⟩) ?_ ?_
              rotate_left
              · intro w'
                go_simp
                with_reducible rfl
              rotate_left
              · simp only [Act.put, List.setIfInBounds_toArray, List.set_cons_zero, List.set_cons_succ, i64_w, i32_w]
                rfl
              refine take_ (i := 4) (N := some 46) (v := ?_) (a' := ?_) #[true, true, true, true, true, true, false, true, false, false, false] rfl rfl (by kernel_rfl) (fun _ _ _ h => h) (Or.inl ⟨by rfl, ?_⟩) hHeld ?_ ?_
              rotate_left
              · rintro w' ⟨s0, s1, s2, s3⟩
                go_simp
                with_reducible rfl
              rotate_left
              · simp only [Act.put, List.setIfInBounds_toArray, List.set_cons_zero, List.set_cons_succ, i64_w, i32_w]
                rfl
              refine take_ (i := 6) (N := some 48) (v := ?_) (a' := ?_) #[true, true, true, true, true, true, true, true, false, false, false] rfl rfl (by kernel_rfl) (fun _ _ _ h => h) (Or.inl ⟨by rfl, ?_⟩) hHeld ?_ ?_
              rotate_left
              · rintro w' ⟨s0, s1, s2, s3⟩
                go_simp
                with_reducible rfl
              rotate_left
              · simp only [Act.put, List.setIfInBounds_toArray, List.set_cons_zero, List.set_cons_succ, i64_w, i32_w]
                rfl
              refine pure_ (i := 8) (N := some 50) (v := ?_) (a' := ?_) #[true, true, true, true, true, true, true, true, true, false, false] rfl rfl (by kernel_rfl) (fun _ _ _ h => h) (Or.inl ⟨by rfl, ?_⟩) ?_ ?_
              rotate_left
              · intro w'
                go_simp
                with_reducible rfl
              rotate_left
              · simp only [Act.put, List.setIfInBounds_toArray, List.set_cons_zero, List.set_cons_succ, i64_w, i32_w]
                rfl
              refine take_ (i := 9) (N := some 51) (v := ?_) (a' := ?_) #[true, true, true, true, true, true, true, true, true, true, false] rfl rfl (by kernel_rfl) (fun _ _ _ h => h) (Or.inl ⟨by rfl, ?_⟩) hHeld ?_ ?_
              rotate_left
              · rintro w' ⟨s0, s1, s2, s3⟩
                go_simp
                with_reducible rfl
              rotate_left
              · simp only [Act.put, List.setIfInBounds_toArray, List.set_cons_zero, List.set_cons_succ, i64_w, i32_w]
                rfl
              refine pure_ (i := 10) (N := some 52) (v := ?_) (a' := ?_) #[true, true, true, true, true, true, true, true, true, true, true] rfl rfl (by kernel_rfl) (fun _ _ _ h => h) (Or.inl ⟨by rfl, ?_⟩) ?_ ?_
              rotate_left
              · intro w'
                go_simp
                with_reducible rfl
              rotate_left
              · simp only [Act.put, List.setIfInBounds_toArray, List.set_cons_zero, List.set_cons_succ, i64_w, i32_w]
                rfl
              refine done_ (by kernel_rfl) ?_

              clear hHeld
              have uo : unlike a.f0 b.f0 i = true := by simp [unlike, un]
              have ec : chg a.f0 b.f0 (i + 1) = chg a.f0 b.f0 i ++ [⟨(i : Int), at_ b.f0 i⟩] := by rw [chg, if_pos uo]
              obtain ⟨cl, cg⟩ := chg_at hlt uo
              rw [HR1.out] at cl cg
              have k1 := eq_false (show ¬ (r1.length : Int) ≤ ((chg a.f0 b.f0 i).length : Int) by omega)
              have el : ((chg a.f0 b.f0 (i + 1)).length : Int) = ((chg a.f0 b.f0 i).length : Int) + 1 := by rw [ec, List.length_append, List.length_singleton]; omega
              generalize hn : (chg a.f0 b.f0 i).length = n at cl cg k1 el ⊢
              obtain ⟨adu, eU, y1, y2⟩ := at_T36 (Kd.R_reads' R15.out).2.2 (n : Int) (by omega) (by omega)
              cases eU
              have er : rd_T36 r1 (n : Int) = ⟨(i : Int), at_ b.f0 i⟩ := by simp [rd_T36, List.getD_eq_getElem?_getD, cg]
              rw [er, Int.toNat_natCast] at y1 y2
              have k2 := eq_true (show (n : Int) < (r1.length : Int) by omega)
              have k3 := eq_true (show (0 : Int) ≤ (n : Int) by omega)
              go_wp2_with fail
              refine start_ (n := 20) (S := fun w' => w'.cell? ⟨g, 32, none⟩ = some (.slice (some adu) r1.length u1) ∧ w'.cell? ⟨w.heap.size + 1, 0, none⟩ = some (.slice (some adb) b.f0.length p0) ∧ w'.cell? (adb.add i) = some (.string (at_ b.f0 i)) ∧ w'.cell? (adu.add (n * 2)) = some (.int .i64 i) ∧ w'.cell? ⟨(adu.add (n * 2)).block, (adu.add (n * 2)).off + 1, none⟩ = some (.string (at_ b.f0 i))) (ds := []) #[false, false, false, false, false, false, false, false, false, false, false, false, false, false, false, false, false, false, false, false] (by kernel_rfl) rfl rfl ⟨e51, (qb5.out.cell 0), xb, y1, y2⟩ (fun hHeld => ?_)
              refine pure_ (i := 0) (N := some 53) (v := ?_) (a' := ?_) #[true, false, false, false, false, false, false, false, false, false, false, false, false, false, false, false, false, false, false, false] rfl rfl (by kernel_rfl) (fun _ _ _ h => h) (Or.inl ⟨by rfl, ?_⟩) ?_ ?_
              rotate_left
              · intro w'
                go_simp
                with_reducible rfl
              rotate_left
              · simp only [Act.put, List.setIfInBounds_toArray, List.set_cons_zero, List.set_cons_succ, i64_w, i32_w]
                rfl
              refine pure_ (i := 1) (N := some 54) (v := ?_) (a' := ?_) #[true, true, false, false, false, false, false, false, false, false, false, false, false, false, false, false, false, false, false, false] rfl rfl (by kernel_rfl) (fun _ _ _ h => h) (Or.inl ⟨by rfl, ?_⟩) ?_ ?_
              rotate_left
              · intro w'
                go_simp
                with_reducible rfl
              rotate_left
              · simp only [Act.put, List.setIfInBounds_toArray, List.set_cons_zero, List.set_cons_succ, i64_w, i32_w]
                rfl
              refine take_ (i := 2) (N := some 55) (v := ?_) (a' := ?_) #[true, true, true, false, false, false, false, false, false, false, false, false, false, false, false, false, false, false, false, false] rfl rfl (by kernel_rfl) (fun _ _ _ h => h) (Or.inl ⟨by rfl, ?_⟩) hHeld ?_ ?_
              rotate_left
              · rintro w' ⟨s0, s1, s2, s3, s4⟩
                go_simp
                with_reducible rfl
              rotate_left
              · simp only [Act.put, List.setIfInBounds_toArray, List.set_cons_zero, List.set_cons_succ, i64_w, i32_w]
                rfl
              refine pure_ (i := 3) (N := some 56) (v := ?_) (a' := ?_) #[true, true, true, true, false, false, false, false, false, false, false, false, false, false, false, false, false, false, false, false] rfl rfl (by kernel_rfl) (fun _ _ _ h => h) (Or.inl ⟨by rfl, ?_⟩) ?_ ?_
              rotate_left
              · intro w'
                go_simp
                with_reducible rfl
              rotate_left
              · simp only [Act.put, List.setIfInBounds_toArray, List.set_cons_zero, List.set_cons_succ, i64_w, i32_w]
                rfl
              refine pure_ (i := 4) (N := some 57) (v := ?_) (a' := ?_) #[true, true, true, true, true, false, false, false, false, false, false, false, false, false, false, false, false, false, false, false] rfl rfl (by kernel_rfl) (fun _ _ _ h => h) (Or.inl ⟨by rfl, ?_⟩) ?_ ?_
              rotate_left
              · intro w'
                go_simp
                with_reducible rfl
              rotate_left
              · simp only [Act.put, List.setIfInBounds_toArray, List.set_cons_zero, List.set_cons_succ, i64_w, i32_w]
                rfl
              refine pure_ (i := 5) (N := some 58) (v := ?_) (a' := ?_) #[true, true, true, true, true, true, false, false, false, false, false, false, false, false, false, false, false, false, false, false] rfl rfl (by kernel_rfl) (fun _ _ _ h => h) (Or.inl ⟨by rfl, ?_⟩) ?_ ?_
              rotate_left
              · intro w'
                go_simp
                with_reducible rfl
              rotate_left
              · simp only [Act.put, List.setIfInBounds_toArray, List.set_cons_zero, List.set_cons_succ, i64_w, i32_w]
                rfl
              refine pure_ (i := 6) (N := some 59) (v := ?_) (a' := ?_) #[true, true, true, true, true, true, true, false, false, false, false, false, false, false, false, false, false, false, false, false] rfl rfl (by kernel_rfl) (fun _ _ _ h => h) (Or.inl ⟨by rfl, ?_⟩) ?_ ?_
              rotate_left
              · intro w'
                go_simp
                with_reducible rfl
              rotate_left
              · simp only [Act.put, List.setIfInBounds_toArray, List.set_cons_zero, List.set_cons_succ, i64_w, i32_w]
                rfl
              refine pure_ (i := 8) (N := some 61) (v := ?_) (a' := ?_) #[true, true, true, true, true, true, true, false, true, false, false, false, false, false, false, false, false, false, false, false] rfl rfl (by kernel_rfl) (fun _ _ _ h => h) (Or.inl ⟨by rfl, ?_⟩) ?_ ?_
              rotate_left
              · intro w'
                go_simp
                with_reducible rfl
              rotate_left
              · simp only [Act.put, List.setIfInBounds_toArray, List.set_cons_zero, List.set_cons_succ, i64_w, i32_w]
                rfl
              refine pure_ (i := 11) (N := some 64) (v := ?_) (a' := ?_) #[true, true, true, true, true, true, true, false, true, false, false, true, false, false, false, false, false, false, false, false] rfl rfl (by kernel_rfl) (fun _ _ _ h => h) (Or.inl ⟨by rfl, ?_⟩) ?_ ?_
              rotate_left
              · intro w'
                go_simp
                with_reducible rfl
              rotate_left
              · simp only [Act.put, List.setIfInBounds_toArray, List.set_cons_zero, List.set_cons_succ, i64_w, i32_w]
                rfl
              refine pure_ (i := 12) (N := some 65) (v := ?_) (a' := ?_) #[true, true, true, true, true, true, true, false, true, false, false, true, true, false, false, false, false, false, false, false] rfl rfl (by kernel_rfl) (fun _ _ _ h => h) (Or.inl ⟨by rfl, ?_⟩) ?_ ?_
              rotate_left
              · intro w'
                go_simp
                with_reducible rfl
              rotate_left
              · simp only [Act.put, List.setIfInBounds_toArray, List.set_cons_zero, List.set_cons_succ, i64_w, i32_w]
                rfl
              refine pure_ (i := 14) (N := some 67) (v := ?_) (a' := ?_) #[true, true, true, true, true, true, true, false, true, false, false, true, true, false, true, false, false, false, false, false] rfl rfl (by kernel_rfl) (fun _ _ _ h => h) (Or.inl ⟨by rfl, ?_⟩) ?_ ?_
              rotate_left
              · intro w'
                go_simp
                with_reducible rfl
              rotate_left
              · simp only [Act.put, List.setIfInBounds_toArray, List.set_cons_zero, List.set_cons_succ, i64_w, i32_w]
                rfl
              refine take_ (i := 7) (N := some 60) (v := ?_) (a' := ?_) #[true, true, true, true, true, true, true, true, true, false, false, true, true, false, true, false, false, false, false, false] rfl rfl (by kernel_rfl) (fun _ _ _ h => h) (Or.inl ⟨by rfl, ?_⟩) hHeld ?_ ?_
              rotate_left
              · rintro w' ⟨s0, s1, s2, s3, s4⟩
                go_simp
                with_reducible rfl
              rotate_left
              · simp only [Act.put, List.setIfInBounds_toArray, List.set_cons_zero, List.set_cons_succ, i64_w, i32_w]
                rfl
              refine pure_ (i := 9) (N := some 62) (v := ?_) (a' := ?_) #[true, true, true, true, true, true, true, true, true, true, false, true, true, false, true, false, false, false, false, false] rfl rfl (by kernel_rfl) (fun _ _ _ h => h) (Or.inl ⟨by rfl, ?_⟩) ?_ ?_
              rotate_left
              · intro w'
                go_simp
                with_reducible rfl
              rotate_left
              · simp only [Act.put, List.setIfInBounds_toArray, List.set_cons_zero, List.set_cons_succ, i64_w, i32_w]
                rfl
              refine take_ (i := 10) (N := some 63) (v := ?_) (a' := ?_) #[true, true, true, true, true, true, true, true, true, true, true, true, true, false, true, false, false, false, false, false] rfl rfl (by kernel_rfl) (fun _ _ _ h => h) (Or.inl ⟨by rfl, ?_⟩) hHeld ?_ ?_
              rotate_left
              · rintro w' ⟨s0, s1, s2, s3, s4⟩
                go_simp
                with_reducible rfl
              rotate_left
              · simp only [Act.put, List.setIfInBounds_toArray, List.set_cons_zero, List.set_cons_succ, i64_w, i32_w]
                rfl
              refine take_ (i := 13) (N := some 66) (v := ?_) (a' := ?_) #[true, true, true, true, true, true, true, true, true, true, true, true, true, true, true, false, false, false, false, false] rfl rfl (by kernel_rfl) (fun _ _ _ h => h) (Or.inl ⟨by rfl, ?_⟩) hHeld ?_ ?_
              rotate_left
              · rintro w' ⟨s0, s1, s2, s3, s4⟩
                go_simp
                with_reducible rfl
              rotate_left
              · simp only [Act.put, List.setIfInBounds_toArray, List.set_cons_zero, List.set_cons_succ, i64_w, i32_w]
                rfl
              refine pure_ (i := 15) (N := some 68) (v := ?_) (a' := ?_) #[true, true, true, true, true, true, true, true, true, true, true, true, true, true, true, true, false, false, false, false] rfl rfl (by kernel_rfl) (fun _ _ _ h => h) (Or.inl ⟨by rfl, ?_⟩) ?_ ?_
              rotate_left
              · intro w'
                go_simp
                with_reducible rfl
              rotate_left
              · simp only [Act.put, List.setIfInBounds_toArray, List.set_cons_zero, List.set_cons_succ, i64_w, i32_w]
                rfl
              refine take_ (i := 16) (N := some 69) (v := ?_) (a' := ?_) #[true, true, true, true, true, true, true, true, true, true, true, true, true, true, true, true, true, false, false, false] rfl rfl (by kernel_rfl) (fun _ _ _ h => h) (Or.inl ⟨by rfl, ?_⟩) hHeld ?_ ?_
              rotate_left
              · rintro w' ⟨s0, s1, s2, s3, s4⟩
                go_simp
                with_reducible rfl
              rotate_left
              · simp only [Act.put, List.setIfInBounds_toArray, List.set_cons_zero, List.set_cons_succ, i64_w, i32_w]
                rfl
              refine pure_ (i := 17) (N := some 70) (v := ?_) (a' := ?_) #[true, true, true, true, true, true, true, true, true, true, true, true, true, true, true, true, true, true, false, false] rfl rfl (by kernel_rfl) (fun _ _ _ h => h) (Or.inl ⟨by rfl, ?_⟩) ?_ ?_
              rotate_left
              · intro w'
                go_simp
                with_reducible rfl
              rotate_left
              · simp only [Act.put, List.setIfInBounds_toArray, List.set_cons_zero, List.set_cons_succ, i64_w, i32_w]
                rfl
              refine pure_ (i := 18) (N := some 71) (v := ?_) (a' := ?_) #[true, true, true, true, true, true, true, true, true, true, true, true, true, true, true, true, true, true, true, false] rfl rfl (by kernel_rfl) (fun _ _ _ h => h) (Or.inl ⟨by rfl, ?_⟩) ?_ ?_
              rotate_left
              · intro w'
                go_simp
                with_reducible rfl
              rotate_left
              · simp only [Act.put, List.setIfInBounds_toArray, List.set_cons_zero, List.set_cons_succ, i64_w, i32_w]
                rfl
              refine pure_ (i := 19) (N := some 72) (v := ?_) (a' := ?_) #[true, true, true, true, true, true, true, true, true, true, true, true, true, true, true, true, true, true, true, true] rfl rfl (by kernel_rfl) (fun _ _ _ h => h) (Or.inl ⟨by rfl, ?_⟩) ?_ ?_
              rotate_left
              · intro w'
                go_simp
                with_reducible rfl
              rotate_left
              · simp only [Act.put, List.setIfInBounds_toArray, List.set_cons_zero, List.set_cons_succ, i64_w, i32_w]
                rfl
              refine done_ (by kernel_rfl) ?_

              clear hHeld
              go_wp2_with fail
              go_roundg (b.f0.length - i - 1)
              case measure => have := hi.out; omega
              case rel => exact ⟨i + 1, by go_num, by rw [el, wrap_succ (n := r1.length) (by omega) (by have := chg_len a.f0 b.f0 b.f0.length; rw [HR1.out] at this; omega)]; push_cast; rfl, ⟨by have := hi.out; omega⟩, by repeat (first | exact Drawn0.refl _ | apply Drawn0.step)⟩
          · obtain rfl : i = b.f0.length := by have := hi.out; omega
            clear hlt hi
            have hc : (chg a.f0 b.f0 b.f0.length).length = r1.length := by rw [HR1.out]
            rw [hc]
            have qb51 : w5.cell? ⟨w.heap.size + 1, 1, none⟩ = some (.slice P1 b.f1.length p1) := qb5.out.cell 1
            clear hc qb50
            go_wp2_with fail
            go_loopg [8, 79] b.f1.length (fun gk v8 v79 wl => ∃ i : Nat, v79 = .int .i64 i ∧ v8 = .int .i64 ((chg a.f1 b.f1 i).length : Nat) ∧ Aside0 (i + gk = b.f1.length) ∧ Drawn0 w5 wl)
            case atStart => exact ⟨0, rfl, rfl, ⟨by omega⟩, ⟨m, rfl⟩⟩
            case round =>
              obtain ⟨i, rfl, rfl, hi, ⟨m, rfl⟩⟩ := hrel
              by_cases hlt : i < b.f1.length
              · have lt1 := eq_true (show (i : Int) < (b.f1.length : Int) by omega)
                have lt2 := eq_true (show (i : Int) < (a.f1.length : Int) by have := T1.out; omega)
                have lt3 := eq_true (show (0 : Int) ≤ (i : Int) by omega)
                obtain ⟨ada, eA, xa⟩ := Kd.at_string (Kd.C_below hA1 W5.out) (i : Int) (by omega) (by have := T1.out; omega)
                obtain ⟨adb, eB, xb⟩ := Kd.at_string (Kd.C_below hP1 W5.out) (i : Int) (by omega) (by omega)
                cases eA
                cases eB
                rw [rdOf_at, Int.toNat_natCast] at xa xb
                by_cases un : (at_ a.f1 i).toList = (at_ b.f1 i).toList
                · have ub : ((at_ a.f1 i).toList == (at_ b.f1 i).toList) = true := beq_iff_eq.mpr un
                  have ub2 : (!((at_ a.f1 i).toList == (at_ b.f1 i).toList)) = false := by rw [ub]; rfl
                  have ub3 : ((at_ a.f1 i).toList != (at_ b.f1 i).toList) = false := bne_eq_false_iff_eq.mpr un
                  go_wp2_with fail
                  refine start_ (n := 11) (S := fun w' => w'.cell? ⟨w.heap.size, 1, none⟩ = some (.slice (some ada) a.f1.length c1) ∧ w'.cell? ⟨w.heap.size + 1, 1, none⟩ = some (.slice (some adb) b.f1.length p1) ∧ w'.cell? (ada.add i) = some (.string (at_ a.f1 i)) ∧ w'.cell? (adb.add i) = some (.string (at_ b.f1 i))) (ds := []) #[false, false, false, false, false, false, false, false, false, false, false] (by kernel_rfl) rfl rfl ⟨(qa5.out.cell 1), (qb5.out.cell 1), xa, xb⟩ (fun hHeld => ?_)
                  refine pure_ (i := 0) (N := some 82) (v := ?_) (a' := ?_) #[true, false, false, false, false, false, false, false, false, false, false] rfl rfl (by kernel_rfl) (fun _ _ _ h => h) (Or.inl ⟨by rfl, ?_⟩) ?_ ?_
                  rotate_left
                  · intro w'
                    go_simp
                    with_reducible rfl
                  rotate_left
                  · simp only [Act.put, List.setIfInBounds_toArray, List.set_cons_zero, List.set_cons_succ, i64_w, i32_w]
                    rfl
                  refine pure_ (i := 2) (N := some 84) (v := ?_) (a' := ?_) #[true, false, true, false, false, false, false, false, false, false, false] rfl rfl (by kernel_rfl) (fun _ _ _ h => h) (Or.inl ⟨by rfl, ?_⟩) ?_ ?_
                  rotate_left
                  · intro w'
                    go_simp
                    with_reducible rfl
                  rotate_left
                  · simp only [Act.put, List.setIfInBounds_toArray, List.set_cons_zero, List.set_cons_succ, i64_w, i32_w]
                    rfl
                  refine pure_ (i := 5) (N := some 87) (v := ?_) (a' := ?_) #[true, false, true, false, false, true, false, false, false, false, false] rfl rfl (by kernel_rfl) (fun _ _ _ h => h) (Or.inl ⟨by rfl, ?_⟩) ?_ ?_
                  rotate_left
                  · intro w'
                    go_simp
                    with_reducible rfl
                  rotate_left
                  · simp only [Act.put, List.setIfInBounds_toArray, List.set_cons_zero, List.set_cons_succ, i64_w, i32_w]
                    rfl
                  refine pure_ (i := 7) (N := some 89) (v := ?_) (a' := ?_) #[true, false, true, false, false, true, false, true, false, false, false] rfl rfl (by kernel_rfl) (fun _ _ _ h => h) (Or.inl ⟨by rfl, ?_⟩) ?_ ?_
                  rotate_left
                  · intro w'
                    go_simp
                    with_reducible rfl
                  rotate_left
                  · simp only [Act.put, List.setIfInBounds_toArray, List.set_cons_zero, List.set_cons_succ, i64_w, i32_w]
                    rfl
                  refine take_ (i := 1) (N := some 83) (v := ?_) (a' := ?_) #[true, true, true, false, false, true, false, true, false, false, false] rfl rfl (by kernel_rfl) (fun _ _ _ h => h) (Or.inl ⟨by rfl, ?_⟩) hHeld ?_ ?_
                  rotate_left
                  · rintro w' ⟨s0, s1, s2, s3⟩
                    go_simp
                    with_reducible rfl
                  rotate_left
                  · simp only [Act.put, List.setIfInBounds_toArray, List.set_cons_zero, List.set_cons_succ, i64_w, i32_w]
                    rfl
                  refine pure_ (i := 3) (N := some 85) (v := ?_) (a' := ?_) #[true, true, true, true, false, true, false, true, false, false, false] rfl rfl (by kernel_rfl) (fun _ _ _ h => h) (Or.inl ⟨by rfl, ?_⟩) ?_ ?_
                  rotate_left
                  · intro w'
                    go_simp
                    with_reducible rfl
                  rotate_left
                  · simp only [Act.put, List.setIfInBounds_toArray, List.set_cons_zero, List.set_cons_succ, i64_w, i32_w]
                    rfl
                  refine take_ (i := 4) (N := some 86) (v := ?_) (a' := ?_) #[true, true, true, true, true, true, false, true, false, false, false] rfl rfl (by kernel_rfl) (fun _ _ _ h => h) (Or.inl ⟨by rfl, ?_⟩) hHeld ?_ ?_
                  rotate_left
                  · rintro w' ⟨s0, s1, s2, s3⟩
                    go_simp
                    with_reducible rfl
                  rotate_left
                  · simp only [Act.put, List.setIfInBounds_toArray, List.set_cons_zero, List.set_cons_succ, i64_w, i32_w]
                    rfl
                  refine take_ (i := 6) (N := some 88) (v := ?_) (a' := ?_) #[true, true, true, true, true, true, true, true, false, false, false] rfl rfl (by kernel_rfl) (fun _ _ _ h => h) (Or.inl ⟨by rfl, ?_⟩) hHeld ?_ ?_
                  rotate_left
                  · rintro w' ⟨s0, s1, s2, s3⟩
                    go_simp
                    with_reducible rfl
                  rotate_left
                  · simp only [Act.put, List.setIfInBounds_toArray, List.set_cons_zero, List.set_cons_succ, i64_w, i32_w]
                    rfl
                  refine pure_ (i := 8) (N := some 90) (v := ?_) (a' := ?_) #[true, true, true, true, true, true, true, true, true, false, false] rfl rfl (by kernel_rfl) (fun _ _ _ h => h) (Or.inl ⟨by rfl, ?_⟩) ?_ ?_
                  rotate_left
                  · intro w'
                    go_simp
                    with_reducible rfl
                  rotate_left
                  · simp only [Act.put, List.setIfInBounds_toArray, List.set_cons_zero, List.set_cons_succ, i64_w, i32_w]
                    rfl
                  refine take_ (i := 9) (N := some 91) (v := ?_) (a' := ?_) #[true, true, true, true, true, true, true, true, true, true, false] rfl rfl (by kernel_rfl) (fun _ _ _ h => h) (Or.inl ⟨by rfl, ?_⟩) hHeld ?_ ?_
                  rotate_left
                  · rintro w' ⟨s0, s1, s2, s3⟩
                    go_simp
                    with_reducible rfl
                  rotate_left
                  · simp only [Act.put, List.setIfInBounds_toArray, List.set_cons_zero, List.set_cons_succ, i64_w, i32_w]
                    rfl
                  refine pure_ (i := 10) (N := some 92) (v := ?_) (a' := ?_) #[true, true, true, true, true, true, true, true, true, true, true] rfl rfl (by kernel_rfl) (fun _ _ _ h => h) (Or.inl ⟨by rfl, ?_⟩) ?_ ?_
                  rotate_left
                  · intro w'
                    go_simp
                    with_reducible rfl
                  rotate_left
                  · simp only [Act.put, List.setIfInBounds_toArray, List.set_cons_zero, List.set_cons_succ, i64_w, i32_w]
                    rfl
                  refine done_ (by kernel_rfl) ?_

                  clear hHeld
                  have ec : chg a.f1 b.f1 (i + 1) = chg a.f1 b.f1 i := by rw [chg, if_neg]; have := T1.out; simp [unlike, un]; omega
                  go_wp2_with fail
                  go_roundg (b.f1.length - i - 1)
                  case measure => have := hi.out; omega
                  case rel => exact ⟨i + 1, by go_num, by rw [ec], ⟨by have := hi.out; omega⟩, by repeat (first | exact Drawn0.refl _ | apply Drawn0.step)⟩
                · have ub : ((at_ a.f1 i).toList == (at_ b.f1 i).toList) = false := beq_eq_false_iff_ne.mpr un
                  have ub2 : (!((at_ a.f1 i).toList == (at_ b.f1 i).toList)) = true := by rw [ub]; rfl
                  have ub3 : ((at_ a.f1 i).toList != (at_ b.f1 i).toList) = true := bne_iff_ne.mpr un
                  go_wp2_with fail
                  refine start_ (n := 11) (S := fun w' => w'.cell? ⟨w.heap.size, 1, none⟩ = some (.slice (some ada) a.f1.length c1) ∧ w'.cell? ⟨w.heap.size + 1, 1, none⟩ = some (.slice (some adb) b.f1.length p1) ∧ w'.cell? (ada.add i) = some (.string (at_ a.f1 i)) ∧ w'.cell? (adb.add i) = some (.string (at_ b.f1 i))) (ds := []) #[false, false, false, false, false, false, false, false, false, false, false] (by kernel_rfl) rfl rfl ⟨(qa5.out.cell 1), (qb5.out.cell 1), xa, xb⟩ (fun hHeld => ?_)
                  refine pure_ (i := 0) (N := some 82) (v := ?_) (a' := ?_) #[true, false, false, false, false, false, false, false, false, false, false] rfl rfl (by kernel_rfl) (fun _ _ _ h => h) (Or.inl ⟨by rfl, ?_⟩) ?_ ?_
                  rotate_left
                  · intro w'
                    go_simp
                    with_reducible rfl
                  rotate_left
                  · simp only [Act.put, List.setIfInBounds_toArray, List.set_cons_zero, List.set_cons_succ, i64_w, i32_w]
                    rfl
                  refine pure_ (i := 2) (N := some 84) (v := ?_) (a' := ?_) #[true, false, true, false, false, false, false, false, false, false, false] rfl rfl (by kernel_rfl) (fun _ _ _ h => h) (Or.inl ⟨by rfl, ?_⟩) ?_ ?_
                  rotate_left
                  · intro w'
                    go_simp
                    with_reducible rfl
                  rotate_left
                  · simp only [Act.put, List.setIfInBounds_toArray, List.set_cons_zero, List.set_cons_succ, i64_w, i32_w]
                    rfl
                  refine pure_ (i := 5) (N := some 87) (v := ?_) (a' := ?_) #[true, false, true, false, false, true, false, false, false, false, false] rfl rfl (by kernel_rfl) (fun _ _ _ h => h) (Or.inl ⟨by rfl, ?_⟩) ?_ ?_
                  rotate_left
                  · intro w'
                    go_simp
                    with_reducible rfl
                  rotate_left
                  · simp only [Act.put, List.setIfInBounds_toArray, List.set_cons_zero, List.set_cons_succ, i64_w, i32_w]
                    rfl
                  refine pure_ (i := 7) (N := some 89) (v := ?_) (a' := ?_) #[true, false, true, false, false, true, false, true, false, false, false] rfl rfl (by kernel_rfl) (fun _ _ _ h => h) (Or.inl ⟨by rfl, ?_⟩) ?_ ?_
                  rotate_left
                  · intro w'
                    go_simp
                    with_reducible rfl
                  rotate_left
                  · simp only [Act.put, List.setIfInBounds_toArray, List.set_cons_zero, List.set_cons_succ, i64_w, i32_w]
                    rfl
                  refine take_ (i := 1) (N := some 83) (v := ?_) (a' := ?_) #[true, true, true, false, false, true, false, true, false, false, false] rfl rfl (by kernel_rfl) (fun _ _ _ h => h) (Or.inl ⟨by rfl, ?_⟩) hHeld ?_ ?_
                  rotate_left
                  · rintro w' ⟨s0, s1, s2, s3⟩
                    go_simp
                    with_reducible rfl
                  rotate_left
                  · simp only [Act.put, List.setIfInBounds_toArray, List.set_cons_zero, List.set_cons_succ, i64_w, i32_w]
                    rfl
                  refine pure_ (i := 3) (N := some 85) (v := ?_) (a' := ?_) #[true, true, true, true, false, true, false, true, false, false, false] rfl rfl (by kernel_rfl) (fun _ _ _ h => h) (Or.inl ⟨by rfl, ?_⟩) ?_ ?_
                  rotate_left
                  · intro w'
                    go_simp
                    with_reducible rfl
                  rotate_left
                  · simp only [Act.put, List.setIfInBounds_toArray, List.set_cons_zero, List.set_cons_succ, i64_w, i32_w]
                    rfl
                  refine take_ (i := 4) (N := some 86) (v := ?_) (a' := ?_) #[true, true, true, true, true, true, false, true, false, false, false] rfl rfl (by kernel_rfl) (fun _ _ _ h => h) (Or.inl ⟨by rfl, ?_⟩) hHeld ?_ ?_
                  rotate_left
                  · rintro w' ⟨s0, s1, s2, s3⟩
                    go_simp
                    with_reducible rfl
                  rotate_left
                  · simp only [Act.put, List.setIfInBounds_toArray, List.set_cons_zero, List.set_cons_succ, i64_w, i32_w]
                    rfl
                  refine take_ (i := 6) (N := some 88) (v := ?_) (a' := ?_) #[true, true, true, true, true, true, true, true, false, false, false] rfl rfl (by kernel_rfl) (fun _ _ _ h => h) (Or.inl ⟨by rfl, ?_⟩) hHeld ?_ ?_
                  rotate_left
                  · rintro w' ⟨s0, s1, s2, s3⟩
                    go_simp
                    with_reducible rfl
                  rotate_left
                  · simp only [Act.put, List.setIfInBounds_toArray, List.set_cons_zero, List.set_cons_succ, i64_w, i32_w]
                    rfl
                  refine pure_ (i := 8) (N := some 90) (v := ?_) (a' := ?_) #[true, true, true, true, true, true, true, true, true, false, false] rfl rfl (by kernel_rfl) (fun _ _ _ h => h) (Or.inl ⟨by rfl, ?_⟩) ?_ ?_
                  rotate_left
                  · intro w'
                    go_simp
                    with_reducible rfl
                  rotate_left
                  · simp only [Act.put, List.setIfInBounds_toArray, List.set_cons_zero, List.set_cons_succ, i64_w, i32_w]
                    rfl
                  refine take_ (i := 9) (N := some 91) (v := ?_) (a' := ?_) #[true, true, true, true, true, true, true, true, true, true, false] rfl rfl (by kernel_rfl) (fun _ _ _ h => h) (Or.inl ⟨by rfl, ?_⟩) hHeld ?_ ?_
                  rotate_left
                  · rintro w' ⟨s0, s1, s2, s3⟩
                    go_simp
                    with_reducible rfl
                  rotate_left
                  · simp only [Act.put, List.setIfInBounds_toArray, List.set_cons_zero, List.set_cons_succ, i64_w, i32_w]
                    rfl
                  refine pure_ (i := 10) (N := some 92) (v := ?_) (a' := ?_) #[true, true, true, true, true, true, true, true, true, true, true] rfl rfl (by kernel_rfl) (fun _ _ _ h => h) (Or.inl ⟨by rfl, ?_⟩) ?_ ?_
                  rotate_left
                  · intro w'
                    go_simp
                    with_reducible rfl
                  rotate_left
                  · simp only [Act.put, List.setIfInBounds_toArray, List.set_cons_zero, List.set_cons_succ, i64_w, i32_w]
                    rfl
                  refine done_ (by kernel_rfl) ?_

                  clear hHeld
                  have uo : unlike a.f1 b.f1 i = true := by simp [unlike, un]
                  have ec : chg a.f1 b.f1 (i + 1) = chg a.f1 b.f1 i ++ [⟨(i : Int), at_ b.f1 i⟩] := by rw [chg, if_pos uo]
                  obtain ⟨cl, cg⟩ := chg_at hlt uo
                  rw [HR2.out] at cl cg
                  have k1 := eq_false (show ¬ (r2.length : Int) ≤ ((chg a.f1 b.f1 i).length : Int) by omega)
                  have el : ((chg a.f1 b.f1 (i + 1)).length : Int) = ((chg a.f1 b.f1 i).length : Int) + 1 := by rw [ec, List.length_append, List.length_singleton]; omega
                  generalize hn : (chg a.f1 b.f1 i).length = n at cl cg k1 el ⊢
                  obtain ⟨adu, eU, y1, y2⟩ := at_T36 (Kd.R_reads' R25.out).2.2 (n : Int) (by omega) (by omega)
                  cases eU
                  have er : rd_T36 r2 (n : Int) = ⟨(i : Int), at_ b.f1 i⟩ := by simp [rd_T36, List.getD_eq_getElem?_getD, cg]
                  rw [er, Int.toNat_natCast] at y1 y2
                  have k2 := eq_true (show (n : Int) < (r2.length : Int) by omega)
                  have k3 := eq_true (show (0 : Int) ≤ (n : Int) by omega)
                  go_wp2_with fail
                  refine start_ (n := 20) (S := fun w' => w'.cell? ⟨g, 33, none⟩ = some (.slice (some adu) r2.length u2) ∧ w'.cell? ⟨w.heap.size + 1, 1, none⟩ = some (.slice (some adb) b.f1.length p1) ∧ w'.cell? (adb.add i) = some (.string (at_ b.f1 i)) ∧ w'.cell? (adu.add (n * 2)) = some (.int .i64 i) ∧ w'.cell? ⟨(adu.add (n * 2)).block, (adu.add (n * 2)).off + 1, none⟩ = some (.string (at_ b.f1 i))) (ds := []) #[false, false, false, false, false, false, false, false, false, false, false, false, false, false, false, false, false, false, false, false] (by kernel_rfl) rfl rfl ⟨e52, (qb5.out.cell 1), xb, y1, y2⟩ (fun hHeld => ?_)
                  refine pure_ (i := 0) (N := some 93) (v := ?_) (a' := ?_) #[true, false, false, false, false, false, false, false, false, false, false, false, false, false, false, false, false, false, false, false] rfl rfl (by kernel_rfl) (fun _ _ _ h => h) (Or.inl ⟨by rfl, ?_⟩) ?_ ?_
                  rotate_left
                  · intro w'
                    go_simp
                    with_reducible rfl
                  rotate_left
                  · simp only [Act.put, List.setIfInBounds_toArray, List.set_cons_zero, List.set_cons_succ, i64_w, i32_w]
                    rfl
                  refine pure_ (i := 1) (N := some 94) (v := ?_) (a' := ?_) #[true, true, false, false, false, false, false, false, false, false, false, false, false, false, false, false, false, false, false, false] rfl rfl (by kernel_rfl) (fun _ _ _ h => h) (Or.inl ⟨by rfl, ?_⟩) ?_ ?_
                  rotate_left
                  · intro w'
                    go_simp
                    with_reducible rfl
                  rotate_left
                  · simp only [Act.put, List.setIfInBounds_toArray, List.set_cons_zero, List.set_cons_succ, i64_w, i32_w]
                    rfl
                  refine take_ (i := 2) (N := some 95) (v := ?_) (a' := ?_) #[true, true, true, false, false, false, false, false, false, false, false, false, false, false, false, false, false, false, false, false] rfl rfl (by kernel_rfl) (fun _ _ _ h => h) (Or.inl ⟨by rfl, ?_⟩) hHeld ?_ ?_
                  rotate_left
                  · rintro w' ⟨s0, s1, s2, s3, s4⟩
                    go_simp
                    with_reducible rfl
                  rotate_left
                  · simp only [Act.put, List.setIfInBounds_toArray, List.set_cons_zero, List.set_cons_succ, i64_w, i32_w]
                    rfl
                  refine pure_ (i := 3) (N := some 96) (v := ?_) (a' := ?_) #[true, true, true, true, false, false, false, false, false, false, false, false, false, false, false, false, false, false, false, false] rfl rfl (by kernel_rfl) (fun _ _ _ h => h) (Or.inl ⟨by rfl, ?_⟩) ?_ ?_
                  rotate_left
                  · intro w'
                    go_simp
                    with_reducible rfl
                  rotate_left
                  · simp only [Act.put, List.setIfInBounds_toArray, List.set_cons_zero, List.set_cons_succ, i64_w, i32_w]
                    rfl
                  refine pure_ (i := 4) (N := some 97) (v := ?_) (a' := ?_) #[true, true, true, true, true, false, false, false, false, false, false, false, false, false, false, false, false, false, false, false] rfl rfl (by kernel_rfl) (fun _ _ _ h => h) (Or.inl ⟨by rfl, ?_⟩) ?_ ?_
                  rotate_left
                  · intro w'
                    go_simp
                    with_reducible rfl
                  rotate_left
                  · simp only [Act.put, List.setIfInBounds_toArray, List.set_cons_zero, List.set_cons_succ, i64_w, i32_w]
                    rfl
                  refine pure_ (i := 5) (N := some 98) (v := ?_) (a' := ?_) #[true, true, true, true, true, true, false, false, false, false, false, false, false, false, false, false, false, false, false, false] rfl rfl (by kernel_rfl) (fun _ _ _ h => h) (Or.inl ⟨by rfl, ?_⟩) ?_ ?_
                  rotate_left
                  · intro w'
                    go_simp
                    with_reducible rfl
                  rotate_left
                  · simp only [Act.put, List.setIfInBounds_toArray, List.set_cons_zero, List.set_cons_succ, i64_w, i32_w]
                    rfl
                  refine pure_ (i := 6) (N := some 99) (v := ?_) (a' := ?_) #[true, true, true, true, true, true, true, false, false, false, false, false, false, false, false, false, false, false, false, false] rfl rfl (by kernel_rfl) (fun _ _ _ h => h) (Or.inl ⟨by rfl, ?_⟩) ?_ ?_
                  rotate_left
                  · intro w'
                    go_simp
                    with_reducible rfl
                  rotate_left
                  · simp only [Act.put, List.setIfInBounds_toArray, List.set_cons_zero, List.set_cons_succ, i64_w, i32_w]
                    rfl
                  refine pure_ (i := 8) (N := some 101) (v := ?_) (a' := ?_) #[true, true, true, true, true, true, true, false, true, false, false, false, false, false, false, false, false, false, false, false] rfl rfl (by kernel_rfl) (fun _ _ _ h => h) (Or.inl ⟨by rfl, ?_⟩) ?_ ?_
                  rotate_left
                  · intro w'
                    go_simp
                    with_reducible rfl
                  rotate_left
                  · simp only [Act.put, List.setIfInBounds_toArray, List.set_cons_zero, List.set_cons_succ, i64_w, i32_w]
                    rfl
                  refine pure_ (i := 11) (N := some 104) (v := ?_) (a' := ?_) #[true, true, true, true, true, true, true, false, true, false, false, true, false, false, false, false, false, false, false, false] rfl rfl (by kernel_rfl) (fun _ _ _ h => h) (Or.inl ⟨by rfl, ?_⟩) ?_ ?_
                  rotate_left
                  · intro w'
                    go_simp
                    with_reducible rfl
                  rotate_left
                  · simp only [Act.put, List.setIfInBounds_toArray, List.set_cons_zero, List.set_cons_succ, i64_w, i32_w]
                    rfl
                  refine pure_ (i := 12) (N := some 105) (v := ?_) (a' := ?_) #[true, true, true, true, true, true, true, false, true, false, false, true, true, false, false, false, false, false, false, false] rfl rfl (by kernel_rfl) (fun _ _ _ h => h) (Or.inl ⟨by rfl, ?_⟩) ?_ ?_
                  rotate_left
                  · intro w'
                    go_simp
                    with_reducible rfl
                  rotate_left
                  · simp only [Act.put, List.setIfInBounds_toArray, List.set_cons_zero, List.set_cons_succ, i64_w, i32_w]
                    rfl
                  refine pure_ (i := 14) (N := some 107) (v := ?_) (a' := ?_) #[true, true, true, true, true, true, true, false, true, false, false, true, true, false, true, false, false, false, false, false] rfl rfl (by kernel_rfl) (fun _ _ _ h => h) (Or.inl ⟨by rfl, ?_⟩) ?_ ?_
                  rotate_left
                  · intro w'
                    go_simp
                    with_reducible rfl
                  rotate_left
                  · simp only [Act.put, List.setIfInBounds_toArray, List.set_cons_zero, List.set_cons_succ, i64_w, i32_w]
                    rfl
                  refine take_ (i := 7) (N := some 100) (v := ?_) (a' := ?_) #[true, true, true, true, true, true, true, true, true, false, false, true, true, false, true, false, false, false, false, false] rfl rfl (by kernel_rfl) (fun _ _ _ h => h) (Or.inl ⟨by rfl, ?_⟩) hHeld ?_ ?_
                  rotate_left
                  · rintro w' ⟨s0, s1, s2, s3, s4⟩
                    go_simp
                    with_reducible rfl
                  rotate_left
                  · simp only [Act.put, List.setIfInBounds_toArray, List.set_cons_zero, List.set_cons_succ, i64_w, i32_w]
                    rfl
                  refine pure_ (i := 9) (N := some 102) (v := ?_) (a' := ?_) #[true, true, true, true, true, true, true, true, true, true, false, true, true, false, true, false, false, false, false, false] rfl rfl (by kernel_rfl) (fun _ _ _ h => h) (Or.inl ⟨by rfl, ?_⟩) ?_ ?_
                  rotate_left
                  · intro w'
                    go_simp
                    with_reducible rfl
                  rotate_left
                  · simp only [Act.put, List.setIfInBounds_toArray, List.set_cons_zero, List.set_cons_succ, i64_w, i32_w]
                    rfl
                  refine take_ (i := 10) (N := some 103) (v := ?_) (a' := ?_) #[true, true, true, true, true, true, true, true, true, true, true, true, true, false, true, false, false, false, false, false] rfl rfl (by kernel_rfl) (fun _ _ _ h => h) (Or.inl ⟨by rfl, ?_⟩) hHeld ?_ ?_
                  rotate_left
                  · rintro w' ⟨s0, s1, s2, s3, s4⟩
                    go_simp
                    with_reducible rfl
                  rotate_left
                  · simp only [Act.put, List.setIfInBounds_toArray, List.set_cons_zero, List.set_cons_succ, i64_w, i32_w]
                    rfl
                  refine take_ (i := 13) (N := some 106) (v := ?_) (a' := ?_) #[true, true, true, true, true, true, true, true, true, true, true, true, true, true, true, false, false, false, false, false] rfl rfl (by kernel_rfl) (fun _ _ _ h => h) (Or.inl ⟨by rfl, ?_⟩) hHeld ?_ ?_
                  rotate_left
                  · rintro w' ⟨s0, s1, s2, s3, s4⟩
                    go_simp
                    with_reducible rfl
                  rotate_left
                  · simp only [Act.put, List.setIfInBounds_toArray, List.set_cons_zero, List.set_cons_succ, i64_w, i32_w]
                    rfl
                  refine pure_ (i := 15) (N := some 108) (v := ?_) (a' := ?_) #[true, true, true, true, true, true, true, true, true, true, true, true, true, true, true, true, false, false, false, false] rfl rfl (by kernel_rfl) (fun _ _ _ h => h) (Or.inl ⟨by rfl, ?_⟩) ?_ ?_
                  rotate_left
                  · intro w'
                    go_simp
                    with_reducible rfl
                  rotate_left
                  · simp only [Act.put, List.setIfInBounds_toArray, List.set_cons_zero, List.set_cons_succ, i64_w, i32_w]
                    rfl
                  refine take_ (i := 16) (N := some 109) (v := ?_) (a' := ?_) #[true, true, true, true, true, true, true, true, true, true, true, true, true, true, true, true, true, false, false, false] rfl rfl (by kernel_rfl) (fun _ _ _ h => h) (Or.inl ⟨by rfl, ?_⟩) hHeld ?_ ?_
                  rotate_left
                  · rintro w' ⟨s0, s1, s2, s3, s4⟩
                    go_simp
                    with_reducible rfl
                  rotate_left
                  · simp only [Act.put, List.setIfInBounds_toArray, List.set_cons_zero, List.set_cons_succ, i64_w, i32_w]
                    rfl
                  refine pure_ (i := 17) (N := some 110) (v := ?_) (a' := ?_) #[true, true, true, true, true, true, true, true, true, true, true, true, true, true, true, true, true, true, false, false] rfl rfl (by kernel_rfl) (fun _ _ _ h => h) (Or.inl ⟨by rfl, ?_⟩) ?_ ?_
                  rotate_left
                  · intro w'
                    go_simp
                    with_reducible rfl
                  rotate_left
                  · simp only [Act.put, List.setIfInBounds_toArray, List.set_cons_zero, List.set_cons_succ, i64_w, i32_w]
                    rfl
                  refine pure_ (i := 18) (N := some 111) (v := ?_) (a' := ?_) #[true, true, true, true, true, true, true, true, true, true, true, true, true, true, true, true, true, true, true, false] rfl rfl (by kernel_rfl) (fun _ _ _ h => h) (Or.inl ⟨by rfl, ?_⟩) ?_ ?_
                  rotate_left
                  · intro w'
                    go_simp
                    with_reducible rfl
                  rotate_left
                  · simp only [Act.put, List.setIfInBounds_toArray, List.set_cons_zero, List.set_cons_succ, i64_w, i32_w]
                    rfl
                  refine pure_ (i := 19) (N := some 112) (v := ?_) (a' := ?_) #[true, true, true, true, true, true, true, true, true, true, true, true, true, true, true, true, true, true, true, true] rfl rfl (by kernel_rfl) (fun _ _ _ h => h) (Or.inl ⟨by rfl, ?_⟩) ?_ ?_
                  rotate_left
                  · intro w'
                    go_simp
                    with_reducible rfl
                  rotate_left
                  · simp only [Act.put, List.setIfInBounds_toArray, List.set_cons_zero, List.set_cons_succ, i64_w, i32_w]
                    rfl
                  refine done_ (by kernel_rfl) ?_

                  clear hHeld
                  go_wp2_with fail
                  go_roundg (b.f1.length - i - 1)
                  case measure => have := hi.out; omega
                  case rel => exact ⟨i + 1, by go_num, by rw [el, wrap_succ (n := r2.length) (by omega) (by have := chg_len a.f1 b.f1 b.f1.length; rw [HR2.out] at this; omega)]; push_cast; rfl, ⟨by have := hi.out; omega⟩, by repeat (first | exact Drawn0.refl _ | apply Drawn0.step)⟩
              · obtain rfl : i = b.f1.length := by have := hi.out; omega
                clear hlt hi
                have hc : (chg a.f1 b.f1 b.f1.length).length = r2.length := by rw [HR2.out]
                rw [hc]
                go_wp2_with fail
                with_reducible refine (fixed_calls _).mono ?_
                rintro e wz ⟨rfl, hb⟩
                have ez1 : wz.cell? ⟨g, 32, none⟩ = some (.slice U1 r1.length u1) := (hb.cell (p := ⟨g, 32, none⟩) E5.out.lt).trans e51
                have ez2 : wz.cell? ⟨g, 33, none⟩ = some (.slice U2 r2.length u2) := (hb.cell (p := ⟨g, 33, none⟩) E5.out.lt).trans e52
                have WZ := below_then (pw_below_drewN W5.out m) W5.out.size hb
                clear e51 e52 hb
                go_wp2_with fail
                go_ret
                exact ⟨rfl, WZ⟩


      · have n0 : ((a.f0.length : Int) != (b.f0.length : Int)) = false := by simp only [bne_eq_false_iff_eq]; omega
        have n1 : ((a.f1.length : Int) != (b.f1.length : Int)) = true := by simp only [bne_iff_ne, ne_eq]; omega
        clear t0
        go_wp2_with ((with_reducible refine (fixed_calls _).mono ?_); rintro e w3 ⟨rfl, hb⟩; have W3 := Aside0.mk (below_then W2.out W2.out.size hb); clear hb)
        go_wp2_with fail
        go_ret
        exact ⟨rfl, W3.out⟩
    · have n0 : ((a.f0.length : Int) != (b.f0.length : Int)) = true := by simp only [bne_iff_ne, ne_eq]; omega
      go_wp2_with ((with_reducible refine (fixed_calls _).mono ?_); rintro e w3 ⟨rfl, hb⟩; have W3 := Aside0.mk (below_then W2.out W2.out.size hb); clear hb)
      go_wp2_with fail
      go_ret
      exact ⟨rfl, W3.out⟩
end Go.Proofs.Ytoljjgabgdifbaa.H
