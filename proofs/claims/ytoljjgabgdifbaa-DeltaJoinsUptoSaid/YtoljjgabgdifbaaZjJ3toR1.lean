/- Layer 35 of the program: the last writes of each number, rising. Layer 2's answer: a mixing. -/
import Derived.Test.YtoljjgabgdifbaaZjH10toH11
import Derived.Test.YtoljjgabgdifbaaZjH13toJ2
import Derived.Sort.OwnSortedInts
import Derived.Carry
import Derived.Test.YtoljjgabgdifbaaZjH3
import Derived.IntWalk

namespace Go.Proofs.Ytoljjgabgdifbaa.H
open Go.RowKit Go.Proofs.YtoljjgabgdifbaaW.PrintWords Go.Proofs.YtoljjgabgdifbaaW.PrintLast Go.Proofs.YtoljjgabgdifbaaW.PrintMore
set_option linter.unusedVariables false
set_option linter.unusedSimpArgs false

theorem info3 : (Try.prog.info? 3).map (fun i => (i.zero, i.size, i.bytes)) = some (some (.int .i64 0), 1, 8) := by kernel_rfl
def srt (ns : List Int) : List Int := ns.mergeSort fun x y => decide (x ≤ y)
theorem srt_len (ns : List Int) : (srt ns).length = ns.length := List.length_mergeSort ns
theorem sort_calls (v : Value) (ns : List Int) (w : World) (base : Nat) (h : Kd.R (Kd.int .i64) 3 w base (fun _ => True) v ns) (hl : ns.length < 4611686018427387904) :
    Calls Try.prog 45 #[v] w fun e w' => e = .returned (.tuple #[]) ∧ Kd.R (Kd.int .i64) 3 w' base (fun _ => True) v (srt ns) ∧ w.grownBy w' v.ownBlock := by
  have ho := Kd.own_of_R h
  rcases ho.2 with ⟨rfl, hn⟩ | ⟨g, cap, cur, rfl, hg, hb, h1, h2, h3, h4⟩
  · obtain rfl : ns = [] := List.eq_nil_of_length_eq_zero hn
    refine (Try.slices_Sort_int_none none 0 w).mono ?_
    rintro e w' ⟨rfl, rfl⟩
    exact ⟨rfl, by simpa [srt] using h, World.grownBy.refl _ _⟩
  · have hlt : g < w.heap.size := (Array.getElem?_eq_some_iff.1 hb).1
    refine (Try.slices_Sort_int g 0 cap ns w (holds_of_blockI hb (by simpa [encs] using h4)) hlt hl).mono ?_
    rintro e w' ⟨rfl, n, os, rfl⟩
    refine ⟨rfl, ?_, grownBy_sortedI _⟩
    have z := ownsRow_sortedI (n := n) (os := os) (base := base) (ss := ns) (ts := srt ns) (srt_len ns) hg hb h1 h2 (by simpa using h3)
    have z2 : (Go.Sort.grow (Go.Sort.putRow (Value.int .i64) (Go.Sort.ahead w n) g 0 (srt ns).toArray) os).ownsRow base 3 1 (.slice (some ⟨g, 0, none⟩) ns.length cap) (srt ns).length (encs (Value.int .i64) (srt ns)) := by
      rw [srt_len]
      exact z
    exact Kd.R_of_own z2 (fun _ _ => trivial)
theorem R_grown {α : Type} {d : Kd α} {e : Nat} {w w' : World} {base : Nat} {ok : Nat → Prop} {v : Value} {xs : List α} {row : Option Nat} (h : Kd.R d e w base ok v xs) (hg : w.grownBy w' row) (hne : ∀ k, ok k → base ≤ k → k < w.heap.size → some k ≠ row) : Kd.R d e w' base ok v xs :=
  Kd.R_mono (Kd.R_move (Kd.R_bound h) (fun k hk => hg.block k hk.2.2.1 (hne k hk.1 hk.2.1 hk.2.2.1))) (fun k hk => hk.1)
/-- The numbers of the first i writes, each once. -/
def nsK (ws : List S36) : Nat → List Int
  | 0 => []
  | i + 1 => if (rd_T36 ws (i : Int)).f0 ∈ nsK ws i then nsK ws i else nsK ws i ++ [(rd_T36 ws (i : Int)).f0]
/-- What the last one of the first i writes to a number is. -/
def lastK (ws : List S36) : Nat → Int → Option ByteArray
  | 0 => fun _ => none
  | i + 1 => fun y => if y = (rd_T36 ws (i : Int)).f0 then some (rd_T36 ws (i : Int)).f1 else lastK ws i y
theorem lastK_isSome (ws : List S36) (y : Int) : ∀ i, (lastK ws i y).isSome = decide (y ∈ nsK ws i)
  | 0 => by simp [lastK, nsK]
  | i + 1 => by
    have ih := lastK_isSome ws y i
    by_cases c : (rd_T36 ws (i : Int)).f0 ∈ nsK ws i
    · rw [nsK, if_pos c]
      show (if y = _ then some _ else lastK ws i y).isSome = _
      by_cases e : y = (rd_T36 ws (i : Int)).f0
      · rw [if_pos e, e]
        simp [c]
      · rw [if_neg e]
        exact ih
    · rw [nsK, if_neg c]
      show (if y = _ then some _ else lastK ws i y).isSome = _
      by_cases e : y = (rd_T36 ws (i : Int)).f0
      · rw [if_pos e, e]
        simp
      · rw [if_neg e, ih]
        simp [e]
theorem nsK_len (ws : List S36) : ∀ i, (nsK ws i).length ≤ i
  | 0 => Nat.le_refl _
  | i + 1 => by
    have := nsK_len ws i
    rw [nsK]
    split
    · omega
    · rw [List.length_append, List.length_singleton]; omega
theorem nsK_mem (ws : List S36) (y : Int) : ∀ i, y ∈ nsK ws i → ∃ j : Nat, y = (rd_T36 ws (j : Int)).f0
  | 0, h => by simp [nsK] at h
  | i + 1, h => by
    rw [nsK] at h
    split at h
    · exact nsK_mem ws y i h
    · rw [List.mem_append, List.mem_singleton] at h
      rcases h with h | h
      · exact nsK_mem ws y i h
      · exact ⟨i, h⟩
/-- The last writes of each number, rising. -/
def bothL (ws : List S36) : List S36 := (srt (nsK ws ws.length)).map fun n => ⟨n, (lastK ws ws.length n).getD ByteArray.empty⟩

set_option maxRecDepth 100000 in
set_option maxHeartbeats 8000000 in
theorem both_calls (A : Option Addr) (c : Nat) (l : List S36) (B : Option Addr) (d : Nat) (m : List S36) (w : World) (hA : Kd.C k36 w A l.length l) (hc : l.length ≤ c) (hB : Kd.C k36 w B m.length m) (hd : m.length ≤ d)
    (hl : l.length ≤ 500000) (hm : m.length ≤ 500000) (hwf : ∀ j : Nat, (Lit.int .i64 (rd_T36 (l ++ m) (j : Int)).f0).wf = true) (hsz : ∀ j : Nat, (rd_T36 (l ++ m) (j : Int)).f1.size ≤ maxLen) :
    Calls Try.prog 34 #[.slice A l.length c, .slice B m.length d] w fun e w' => ∃ v, e = .returned v ∧ Kd.R k36 36 w' w.heap.size (fun _ => True) v (bothL (l ++ m)) ∧ Below w.heap.size w w' := by
  have hmk : ∀ w : World, (Instr.makeMap 69 none).run Try.prog w = .ok (.map (some w.heap.size)) (w.alloc (.map #[] 0)) := fun w => run_makeMap 69 w
  have W2 := ((Below.refl w.heap.size w).alloc (Nat.le_refl _) (.map #[] 0)).alloc (by simp) (.cells #[.slice A l.length c, .slice B m.length d] 30)
  have BQ := Blk.new (w.alloc (.map #[] 0)) 30 #[.slice A l.length c, .slice B m.length d]
  rw [sz] at BQ
  have CC := Aside0.mk (concat_calls A c l B d m (w.heap.size + 1) _ (Kd.C_below hA W2) hc (Kd.C_below hB W2) hd BQ (by omega) (by omega))
  have MM := Aside0.mk ((MapIs.made w).alloc (.cells #[.slice A l.length c, .slice B m.length d] 30))
  have hlen : (l ++ m).length ≤ 1000000 := by rw [List.length_append]; omega
  have W2 := Aside0.mk W2
  have HWF := Aside0.mk hwf
  have HSZ := Aside0.mk hsz
  have HLEN := Aside0.mk hlen
  clear hA hB BQ hwf hsz hl hm hlen
  generalize hws : l ++ m = ws at CC HWF HSZ HLEN ⊢
  clear hws
  go_enter Try.func34, Try.ntmps34
  go_wp2_with fail
  refine CC.out.mono ?_
  rintro e w3 ⟨v, rfl, hR, hb⟩
  obtain ⟨A', c', rfl⟩ := Kd.R_slice hR
  have W3 := Aside0.mk (below_then W2.out W2.out.size hb)
  have MM3 : Aside0 (MapIs w3 w.heap.size 0 (lastK ws 0)) := ⟨MM.out.kept (row := none) ⟨hb.os, hb.tape, hb.output, hb.size, fun k hk _ => hb.block k hk⟩ (by simp)⟩
  rw [sz, sz] at hR
  have RW3 : Aside0 (Kd.R k36 36 w3 (w.heap.size + 1 + 1) (fun k => k < w3.heap.size) (.slice A' ws.length c') ws) := ⟨Kd.R_mono (Kd.R_bound hR) (fun k hk => hk.2.2.1)⟩
  have hs3 := hb.size
  rw [sz, sz] at hs3
  have HH : Aside0 (w3.heap.size ≤ w3.heap.size ∧ w.heap.size < w3.heap.size) := ⟨by omega, by omega⟩
  clear hR hb CC MM W2 hs3
  obtain ⟨H1, hH1⟩ : ∃ H1, H1 = w3.heap.size := ⟨_, rfl⟩
  rw [← hH1] at RW3
  have HH : Aside0 (H1 ≤ w3.heap.size ∧ w.heap.size < H1) := ⟨by rw [hH1]; exact HH.out⟩
  clear hH1
  go_wp2_with fail
  go_loopg [6, 20] ws.length (fun gk v6 v20 wl => ∃ (i : Nat) (vn : Value), vn = v6 ∧ v20 = .int .i64 i ∧ Aside0 (i + gk = ws.length) ∧ Aside0 (Kd.R k36 36 wl (w.heap.size + 1 + 1) (fun k => k < H1) (.slice A' ws.length c') ws) ∧ Aside0 (Kd.R (Kd.int .i64) 3 wl H1 (fun _ => True) vn (nsK ws i)) ∧ Aside0 (MapIs wl w.heap.size i (lastK ws i)) ∧ Aside0 (Below w.heap.size w wl) ∧ Aside0 (H1 ≤ wl.heap.size ∧ w.heap.size < H1))
  case atStart => exact ⟨0, _, rfl, rfl, ⟨by omega⟩, RW3, ⟨Kd.R_nil _ _ _ _ _⟩, MM3, W3, HH⟩
  case round =>
    clear RW3 MM3 W3 HH
    obtain ⟨i, vn, hvn, rfl, hi, RW, RN, MM, BW, HH⟩ := hrel
    subst hvn
    by_cases hlt : i < ws.length
    · have lt1 := eq_true (show (i : Int) < (ws.length : Int) by omega)
      have lt0 := eq_true (show (0 : Int) ≤ (i : Int) by omega)
      have ww : IntKind.i64.wrap ((i : Int) + 1) = (i : Int) + 1 := IntWalk.i64_in _ (by have := HLEN.out; omega)
      obtain ⟨ad, eA, y1, y2⟩ := at_T36 (Kd.R_reads' RW.out).2.2 (i : Int) (by omega) (by omega)
      cases eA
      rw [Int.toNat_natCast] at y1 y2
      have wf := HWF.out i
      have sg := HSZ.out i
      have en : nsK ws (i + 1) = if (rd_T36 ws (i : Int)).f0 ∈ nsK ws i then nsK ws i else nsK ws i ++ [(rd_T36 ws (i : Int)).f0] := rfl
      have el : lastK ws (i + 1) = fun y => if y = (rd_T36 ws (i : Int)).f0 then some (rd_T36 ws (i : Int)).f1 else lastK ws i y := rfl
      have ei := lastK_isSome ws (rd_T36 ws (i : Int)).f0 i
      generalize (rd_T36 ws (i : Int)).f0 = x at y1 wf en el ei
      generalize (rd_T36 ws (i : Int)).f1 = s at y2 sg el
      have BK := Blk.new wr 36 #[.int .i64 x, .string s]
      have RWa := Kd.R_alloc RW.out (.cells #[.int .i64 x, .string s] 36)
      have RNa := Kd.R_alloc RN.out (.cells #[.int .i64 x, .string s] 36)
      have MMa := MM.out.alloc (.cells #[.int .i64 x, .string s] 36)
      have BWa := BW.out.alloc BW.out.size (.cells #[.int .i64 x, .string s] 36)
      have Sa := sz wr (.cells #[.int .i64 x, .string s] 36)
      generalize hwa : wr.alloc (.cells #[.int .i64 x, .string s] 36) = wa at BK RWa RNa MMa BWa Sa
      have HWA := Aside0.mk hwa
      clear hwa
      have k0 : wa.cell? ⟨wr.heap.size, 0, none⟩ = some (.int .i64 x) := BK.cell 0
      have k1 : wa.cell? ⟨wr.heap.size, 1, none⟩ = some (.string s) := BK.cell 1
      obtain ⟨s0, hlk⟩ := MMa.look_ok wf
      rw [ei] at hlk
      have HA1 := Aside0.mk (show H1 ≤ wa.heap.size by have := HH.out; omega)
      have RNlt : ∀ k, vn.ownBlock = some k → H1 ≤ k ∧ k < wr.heap.size := fun k hk => ⟨((Kd.R_bound RN.out).1 k hk).2.1, ((Kd.R_bound RN.out).1 k hk).2.2.1⟩
      by_cases hin : x ∈ nsK ws i
      · rw [if_pos hin] at en
        rw [decide_eq_true hin] at hlk
        obtain ⟨w5, hup, MM5, hg5⟩ := MMa.update (by have := HLEN.out; omega) wf sg
        have RW5 := Aside0.mk (R_grown RWa hg5 (fun k _ hb _ e => by have := Option.some.inj e; omega))
        have RN5 := R_grown RNa hg5 (fun k _ hb _ e => by have := Option.some.inj e; have := HH.out; omega)
        have BW5 := Aside0.mk (BWa.grown hg5 BWa.size (fun k hk => by cases hk; exact Nat.le_refl _))
        have H5 : Aside0 (H1 ≤ w5.heap.size ∧ w.heap.size < H1) := ⟨by have := hg5.size; have := HH.out; have := HA1.out; omega⟩
        rw [← en] at RN5
        rw [← el] at MM5
        have RN5 := Aside0.mk RN5
        have MM5 := Aside0.mk MM5
        clear en el ei hg5 RWa RNa MMa BWa Sa BK RNlt hin
        go_wp2_with (rw [show wr.alloc (.cells #[.int .i64 x, .string s] 36) = wa from HWA.out])
        go_roundg (ws.length - i - 1)
        case measure => have := hi.out; omega
        case rel => exact ⟨i + 1, _, rfl, by push_cast; rfl, ⟨by have := hi.out; omega⟩, RW5, RN5, MM5, BW5, H5⟩
      · rw [if_neg hin] at en
        rw [decide_eq_false hin] at hlk
        have EN := Aside0.mk en
        have EL := Aside0.mk el
        have BK := Aside0.mk BK
        have RWa := Aside0.mk RWa
        have RNa := Aside0.mk RNa
        have MMa := Aside0.mk MMa
        have BWa := Aside0.mk BWa
        have Sa := Aside0.mk Sa
        have RNlt := Aside0.mk RNlt
        clear en el ei hin
        go_wp2_with (first | (rw [show wr.alloc (.cells #[.int .i64 x, .string s] 36) = wa from HWA.out]) | ((with_reducible refine gate_builtin (b := .append) (xs := #[.tmp 33, .tmp 36]) rfl ?_); at_builtin; rw [show wr.heap.size + 1 = wa.heap.size from Sa.out.symm]; refine Kd.R_append (Kd.int .i64) (w0 := wa) H1 rfl (.tmp 33) (.tmp 36) 70 3 (.int .i64 0) 8 rfl Try.underlying70 info3 rfl (by decide) (by omega) _ (nsK ws i) x [.int .i64 x] (fun _ => True) (fun _ => False) rfl rfl ?aP (fun _ hk => hk.elim) ?aF ?aO ?aB ?aS ?aL ?_; (case aP => exact rfl); (case aB => exact Below.refl _ _); (case aF => exact fun _ _ => trivial); (case aO => exact RNa.out); (case aS => exact HA1.out); (case aL => have := nsK_len ws i; have := HLEN.out; omega); intro v1 w4 ho hb hg hat; rw [← EN.out] at ho; have RN4 := Aside0.mk ho; have BK4 := BK.out.grown hg (fun e => by have := (RNlt.out _ e.symm).2; omega); have MM4 := MMa.out.kept hg (fun e => by have := (RNlt.out _ e.symm).1; have := HH.out; omega); have RW4 := R_grown RWa.out hg (fun k hk _ _ e => by have := (RNlt.out _ e.symm).1; omega); have BW4 := BWa.out.grown hg BWa.out.size (fun k hk => by have := (RNlt.out _ hk).1; have := HH.out; omega); obtain ⟨w5, hup, MM5, hg5⟩ := MM4.update (by have := HLEN.out; omega) wf sg; have HS5 : Aside0 (H1 ≤ w5.heap.size) := ⟨by have := hg5.size; have := hg.size; have := HA1.out; omega⟩; have k04 : w4.cell? ⟨wr.heap.size, 0, none⟩ = some (.int .i64 x) := BK4.cell 0; have k14 : w4.cell? ⟨wr.heap.size, 1, none⟩ = some (.string s) := BK4.cell 1; have RW5 := Aside0.mk (R_grown RW4 hg5 (fun k _ hb _ e => by have := Option.some.inj e; omega)); have RN5 := Aside0.mk (R_grown RN4.out hg5 (fun k _ hb _ e => by have := Option.some.inj e; have := HH.out; omega)); have BW5 := Aside0.mk (BW4.grown hg5 BW4.size (fun k hk => by cases hk; exact Nat.le_refl _)); rw [← EL.out] at MM5; have MM5 := Aside0.mk MM5; clear ho hb hg hat hg5 RN4 BK4 MM4 RW4 BW4 k0 k1 hlk))
        go_roundg (ws.length - i - 1)
        case measure => have := hi.out; omega
        case rel => exact ⟨i + 1, _, rfl, by push_cast; rfl, ⟨by have := hi.out; omega⟩, RW5, RN5, MM5, BW5, ⟨HS5.out, HH.out.2⟩⟩
    · obtain rfl : i = ws.length := by have := hi.out; omega
      clear hlt hi RW
      obtain ⟨N', n', rfl⟩ := Kd.R_slice RN.out
      have lf := eq_false (show ¬ (ws.length : Int) < (ws.length : Int) by omega)
      have SC := Aside0.mk (sort_calls _ _ wr H1 RN.out (by have := nsK_len ws ws.length; have := HLEN.out; omega))
      have NL := Aside0.mk (nsK_len ws ws.length)
      have RNlt : ∀ k, (Value.slice N' (nsK ws ws.length).length n').ownBlock = some k → H1 ≤ k := fun k hk => ((Kd.R_bound RN.out).1 k hk).2.1
      have LM : Aside0 (∀ j : Nat, j < (srt (nsK ws ws.length)).length → ∃ s, lastK ws ws.length ((srt (nsK ws ws.length)).getD j 0) = some s ∧ (Lit.int .i64 ((srt (nsK ws ws.length)).getD j 0)).wf = true ∧ (bothL ws).take (j + 1) = (bothL ws).take j ++ [⟨(srt (nsK ws ws.length)).getD j 0, s⟩]) := ⟨fun j hj => by
        have e : (srt (nsK ws ws.length)).getD j 0 = (srt (nsK ws ws.length))[j] := by simp [List.getD_eq_getElem?_getD, List.getElem?_eq_getElem hj]
        have hmem : (srt (nsK ws ws.length))[j] ∈ nsK ws ws.length := by
          have := List.getElem_mem hj
          unfold srt at this
          rw [List.mem_mergeSort] at this
          exact this
        have hs := lastK_isSome ws (srt (nsK ws ws.length))[j] ws.length
        rw [decide_eq_true hmem] at hs
        obtain ⟨s, es⟩ := Option.isSome_iff_exists.1 hs
        obtain ⟨q, hq⟩ := nsK_mem ws _ _ hmem
        refine ⟨s, by rw [e]; exact es, by rw [e, hq]; exact HWF.out q, ?_⟩
        rw [List.take_add_one]
        congr 1
        unfold bothL
        rw [List.getElem?_map, List.getElem?_eq_getElem hj, e]
        simp [es]⟩
      have BL : Aside0 ((bothL ws).length = (srt (nsK ws ws.length)).length) := ⟨by unfold bothL; rw [List.length_map]⟩
      have SL := srt_len (nsK ws ws.length)
      generalize nsK ws ws.length = ns at SC NL RNlt LM BL SL RN
      have SL := Aside0.mk SL
      go_wp2_with fail
      refine SC.out.mono ?_
      rintro e w6 ⟨rfl, hR6, hg6⟩
      have MM6 := Aside0.mk (MM.out.kept hg6 (fun e => by have := RNlt _ e.symm; have := HH.out; omega))
      have BW6 := Aside0.mk (BW.out.grown hg6 BW.out.size (fun k hk => by have := RNlt _ hk; have := HH.out; omega))
      have RN6 : Aside0 (Kd.R (Kd.int .i64) 3 w6 H1 (fun k => k < w6.heap.size) (.slice N' ns.length n') (srt ns)) := ⟨Kd.R_mono (Kd.R_bound hR6) (fun k hk => hk.2.2.1)⟩
      have HH6 : Aside0 (w6.heap.size ≤ w6.heap.size ∧ w.heap.size < w6.heap.size) := ⟨by have := hg6.size; have := HH.out; omega⟩
      clear hR6 hg6 SC RNlt RN MM BW HH
      obtain ⟨H6, hH6⟩ : ∃ H6, H6 = w6.heap.size := ⟨_, rfl⟩
      rw [← hH6] at RN6
      have HH6 : Aside0 (H6 ≤ w6.heap.size ∧ w.heap.size < H6) := ⟨by rw [hH6]; exact HH6.out⟩
      clear hH6
      go_wp2_with fail
      go_loopg [11, 48] ns.length (fun gk v11 v48 wl => ∃ (i : Nat) (vn : Value), vn = v11 ∧ v48 = .int .i64 i ∧ Aside0 (i + gk = ns.length) ∧ Aside0 (Kd.R (Kd.int .i64) 3 wl H1 (fun k => k < H6) (.slice N' ns.length n') (srt ns)) ∧ Aside0 (Kd.R k36 36 wl H6 (fun _ => True) vn ((bothL ws).take i)) ∧ Aside0 (MapIs wl w.heap.size ws.length (lastK ws ws.length)) ∧ Aside0 (Below w.heap.size w wl) ∧ Aside0 (H6 ≤ wl.heap.size ∧ w.heap.size < H6))
      case atStart => exact ⟨0, _, rfl, rfl, ⟨by omega⟩, RN6, ⟨Kd.R_nil _ _ _ _ _⟩, MM6, BW6, HH6⟩
      case round =>
        clear RN6 MM6 BW6 HH6
        obtain ⟨i, vn, hvn, rfl, hi, RN, RO, MM, BW, HH⟩ := hrel
        subst hvn
        by_cases hlt : i < ns.length
        · have lt1 := eq_true (show (i : Int) < (ns.length : Int) by omega)
          have lt0 := eq_true (show (0 : Int) ≤ (i : Int) by omega)
          have ww : IntKind.i64.wrap ((i : Int) + 1) = (i : Int) + 1 := IntWalk.i64_in _ (by have := HLEN.out; have := NL.out; omega)
          obtain ⟨ad, eA, y1⟩ := Kd.at_int (Kd.R_reads' RN.out).2.2 (i : Int) (by omega) (by rw [SL.out]; omega)
          cases eA
          rw [Int.toNat_natCast, show rd (srt ns) (i : Int) = (srt ns).getD i 0 from by simp [rd]] at y1
          obtain ⟨s, hs, wf, et⟩ := LM.out i (by rw [SL.out]; exact hlt)
          generalize (srt ns).getD i 0 = n at y1 hs wf et
          have hlk := MM.out.look wf hs
          have ET := Aside0.mk et
          have ROlt := Aside0.mk (show ∀ k, vn.ownBlock = some k → H6 ≤ k from fun k hk => ((Kd.R_bound RO.out).1 k hk).2.1)
          clear et hs
          go_wp2_with ((with_reducible refine gate_builtin (b := .append) (xs := #[.tmp 52, .tmp 58]) rfl ?_); at_builtin; refine Kd.R_append k36 (w0 := wr) H6 rfl (.tmp 52) (.tmp 58) 30 36 (.agg #[(.int .i64 0), (.string ⟨#[]⟩)]) 24 rfl Try.underlying30 info36 rfl (by decide) (by omega) _ ((bothL ws).take i) (⟨n, s⟩ : S36) [.int .i64 n, .string s] (fun _ => True) (fun _ => False) rfl rfl ?aP (fun _ hk => hk.elim) ?aF ?aO ?aB ?aS ?aL ?_; (case aP => exact k36_mkM _ _ _ (⟨n, s⟩ : S36)); (case aB => exact Below.refl _ _); (case aF => exact fun _ _ => trivial); (case aO => exact RO.out); (case aS => exact HH.out.1); (case aL => have := HLEN.out; have := NL.out; rw [List.length_take]; omega); intro v1 w8 ho hb hg hat; rw [← ET.out] at ho; have RO8 := Aside0.mk ho; have RN8 := Aside0.mk (R_grown RN.out hg (fun k hk _ _ e => by have := ROlt.out _ e.symm; omega)); have MM8 := Aside0.mk (MM.out.kept hg (fun e => by have := ROlt.out _ e.symm; have := HH.out; omega)); have BW8 := Aside0.mk (BW.out.grown hg BW.out.size (fun k hk => by have := ROlt.out _ hk; have := HH.out; omega)); have HH8 : Aside0 (H6 ≤ w8.heap.size ∧ w.heap.size < H6) := ⟨by have := hg.size; have := HH.out; omega⟩; clear ho hb hg hat)
          go_roundg (ns.length - i - 1)
          case measure => have := hi.out; omega
          case rel => exact ⟨i + 1, _, rfl, by push_cast; rfl, ⟨by have := hi.out; omega⟩, RN8, RO8, MM8, BW8, HH8⟩
        · obtain rfl : i = ns.length := by have := hi.out; omega
          have lf2 := eq_false (show ¬ (ns.length : Int) < (ns.length : Int) by omega)
          have hRO := RO.out
          rw [List.take_of_length_le (by rw [BL.out, SL.out]; exact Nat.le_refl _)] at hRO
          go_wp2_with fail
          go_ret
          exact ⟨_, rfl, Kd.R_lower hRO (by have := HH.out; omega), BW.out⟩
end Go.Proofs.Ytoljjgabgdifbaa.H


namespace Go.Proofs.Ytoljjgabgdifbaa.H
open Go.RowKit Go.Proofs.YtoljjgabgdifbaaW.PrintWords Go.Proofs.YtoljjgabgdifbaaW.PrintLast
set_option linter.unusedVariables false
set_option linter.unusedSimpArgs false

theorem or_comm' (k : IntKind) (x y : Int) : Go.bits .or k x y = Go.bits .or k y x := by
  show k.wrap _ = k.wrap _
  simp only [BitVec.or_comm]
theorem turned16 (x : Int) (w : World) : Calls Try.prog 102 #[.int .u32 x, .int .u64 16] w fun e w' => e = .returned (.int .u32 (rot x 65536 65536)) ∧ w' = w := by
  go_enter Try.func102, Try.ntmps102
  go_wp2
  go_ret
  exact ⟨ret_int (or_comm' _ _ _), rfl⟩
theorem turned12 (x : Int) (w : World) : Calls Try.prog 102 #[.int .u32 x, .int .u64 12] w fun e w' => e = .returned (.int .u32 (rot x 1048576 4096)) ∧ w' = w := by
  go_enter Try.func102, Try.ntmps102
  go_wp2
  go_ret
  exact ⟨ret_int (or_comm' _ _ _), rfl⟩
theorem turned8 (x : Int) (w : World) : Calls Try.prog 102 #[.int .u32 x, .int .u64 8] w fun e w' => e = .returned (.int .u32 (rot x 16777216 256)) ∧ w' = w := by
  go_enter Try.func102, Try.ntmps102
  go_wp2
  go_ret
  exact ⟨ret_int (or_comm' _ _ _), rfl⟩
theorem turned7 (x : Int) (w : World) : Calls Try.prog 102 #[.int .u32 x, .int .u64 7] w fun e w' => e = .returned (.int .u32 (rot x 33554432 128)) ∧ w' = w := by
  go_enter Try.func102, Try.ntmps102
  go_wp2
  go_ret
  exact ⟨ret_int (or_comm' _ _ _), rfl⟩

theorem Blk.rsetRow_ {w : World} {g : Nat} {t : TypeId} {cs : Array Value} (h : Blk w g t cs) (cs' : Array Value) : Blk (w.setRow g cs') g t cs' := setRow_heap w g cs cs' t (0, 0) h
theorem rbelow_setRow {B g : Nat} {w0 w : World} (hb : Below B w0 w) (hBg : B ≤ g) (cs : Array Value) : Below B w0 (w.setRow g cs) :=
  hb.trans ⟨rfl, rfl, rfl, by simp [World.setRow], fun k hk => setRow_other w g k cs (by omega)⟩
theorem nums_all32 (vs : List Int) : (nums .u32 vs).toArray.all (·.oneCell') = true := by
  rw [Array.all_eq_true_iff_forall_mem]
  intro v hv
  simp only [nums, List.mem_toArray, List.mem_map] at hv
  obtain ⟨x, _, rfl⟩ := hv
  rfl
/-- What stands while four numbers are mixed. -/
structure RF (w0 w : World) (a b c d : Nat) (vs : List Int) (xa xb xc xd : Int) : Prop where
  below : Below w0.heap.size w0 w
  blk : Blk w w0.heap.size 112 (nums .u32 vs).toArray
  res : Blk w (w0.heap.size + 1) 112 (nums .u32 (List.replicate 16 0)).toArray
  len : vs.length = 16
  ga : vs.getD a 0 = xa
  gb : vs.getD b 0 = xb
  gc : vs.getD c 0 = xc
  gd : vs.getD d 0 = xd
theorem getD_set_ne {vs : List Int} {i j : Nat} (h : i ≠ j) (y : Int) : (vs.set i y).getD j 0 = vs.getD j 0 := by
  simp [List.getD_eq_getElem?_getD, List.getElem?_set_ne h]
theorem getD_set_eq {vs : List Int} {i : Nat} (h : i < vs.length) (y : Int) : (vs.set i y).getD i 0 = y := by
  simp [List.getD_eq_getElem?_getD, List.getElem?_set_self h]
theorem RF.q {w0 w : World} {a b c d : Nat} {vs : List Int} {xa xb xc xd : Int} (X : RF w0 w a b c d vs xa xb xc xd) (i : Nat) (hi : i < 16) {y : Int} (hy : vs.getD i 0 = y) : w.cell? ⟨w0.heap.size, i, none⟩ = some (.int .u32 y) := by
  rw [← hy]
  exact (X.blk.cell i).trans (nums_get (by rw [X.len]; exact hi))
theorem RF.set_ {w0 w : World} {a b c d : Nat} {vs : List Int} {xa xb xc xd : Int} (X : RF w0 w a b c d vs xa xb xc xd) (i : Nat) (y : Int) {ya yb yc yd : Int} (ha : (vs.set i y).getD a 0 = ya) (hb : (vs.set i y).getD b 0 = yb) (hc : (vs.set i y).getD c 0 = yc) (hd : (vs.set i y).getD d 0 = yd) :
    RF w0 ((w.setCell ⟨w0.heap.size, i, none⟩ (.int .u32 y)).drew) a b c d (vs.set i y) ya yb yc yd := by
  refine ⟨below_drew (X.below.setCell (Nat.le_refl _) _), ?_, (X.res.far (by simp) _).drew, by rw [List.length_set]; exact X.len, ha, hb, hc, hd⟩
  have z := X.blk.set_ i (.int .u32 y)
  rw [nums_set] at z
  exact z.drew
theorem RF.set_a {w0 w : World} {a b c d : Nat} {vs : List Int} {xa xb xc xd : Int} (X : RF w0 w a b c d vs xa xb xc xd) (y : Int) (h : a < 16) (mb : a ≠ b) (mc : a ≠ c) (md : a ≠ d) :
    RF w0 ((w.setCell ⟨w0.heap.size, a, none⟩ (.int .u32 y)).drew) a b c d (vs.set a y) y xb xc xd :=
  X.set_ a y (getD_set_eq (by rw [X.len]; exact h) y) ((getD_set_ne mb y).trans X.gb) ((getD_set_ne mc y).trans X.gc) ((getD_set_ne md y).trans X.gd)
theorem RF.set_b {w0 w : World} {a b c d : Nat} {vs : List Int} {xa xb xc xd : Int} (X : RF w0 w a b c d vs xa xb xc xd) (y : Int) (h : b < 16) (ma : b ≠ a) (mc : b ≠ c) (md : b ≠ d) :
    RF w0 ((w.setCell ⟨w0.heap.size, b, none⟩ (.int .u32 y)).drew) a b c d (vs.set b y) xa y xc xd :=
  X.set_ b y ((getD_set_ne ma y).trans X.ga) (getD_set_eq (by rw [X.len]; exact h) y) ((getD_set_ne mc y).trans X.gc) ((getD_set_ne md y).trans X.gd)
theorem RF.set_c {w0 w : World} {a b c d : Nat} {vs : List Int} {xa xb xc xd : Int} (X : RF w0 w a b c d vs xa xb xc xd) (y : Int) (h : c < 16) (ma : c ≠ a) (mb : c ≠ b) (md : c ≠ d) :
    RF w0 ((w.setCell ⟨w0.heap.size, c, none⟩ (.int .u32 y)).drew) a b c d (vs.set c y) xa xb y xd :=
  X.set_ c y ((getD_set_ne ma y).trans X.ga) ((getD_set_ne mb y).trans X.gb) (getD_set_eq (by rw [X.len]; exact h) y) ((getD_set_ne md y).trans X.gd)
theorem RF.set_d {w0 w : World} {a b c d : Nat} {vs : List Int} {xa xb xc xd : Int} (X : RF w0 w a b c d vs xa xb xc xd) (y : Int) (h : d < 16) (ma : d ≠ a) (mb : d ≠ b) (mc : d ≠ c) :
    RF w0 ((w.setCell ⟨w0.heap.size, d, none⟩ (.int .u32 y)).drew) a b c d (vs.set d y) xa xb xc y :=
  X.set_ d y ((getD_set_ne ma y).trans X.ga) ((getD_set_ne mb y).trans X.gb) ((getD_set_ne mc y).trans X.gc) (getD_set_eq (by rw [X.len]; exact h) y)
theorem mod_add3 (a b x : Int) : ((a + b) % 4294967296 + x) % 4294967296 = (a + (b + x) % 4294967296) % 4294967296 := by omega
set_option maxRecDepth 100000 in
set_option maxHeartbeats 4000000 in
theorem rmix_calls {vs : List Int} (a b c d : Nat) (x y : Int) (w : World) (hl : vs.length = 16) (la : a < 16) (lb : b < 16) (lc : c < 16) (ld : d < 16) (ab : a ≠ b) (ac : a ≠ c) (ad : a ≠ d) (bc : b ≠ c) (bd : b ≠ d) (cd : c ≠ d) :
    Calls Try.prog 87 #[.agg (nums .u32 vs).toArray, .int .i64 a, .int .i64 b, .int .i64 c, .int .i64 d, .int .u32 x, .int .u32 y] w
      fun e w' => e = .returned (.agg (nums .u32 (mixL vs a b c d x y)).toArray) ∧ Below w.heap.size w w' := by
  have X0 : RF w ((w.alloc (.cells (nums .u32 vs).toArray 112)).alloc (.cells (nums .u32 (List.replicate 16 0)).toArray 112)) a b c d vs (vs.getD a 0) (vs.getD b 0) (vs.getD c 0) (vs.getD d 0) :=
    ⟨((Below.refl w.heap.size w).alloc (Nat.le_refl _) _).alloc (by rw [sz]; omega) _, (Blk.new w 112 _).alloc _, by have z := Blk.new (w.alloc (.cells (nums .u32 vs).toArray 112)) 112 (nums .u32 (List.replicate 16 0)).toArray; rw [sz] at z; exact z, hl, rfl, rfl, rfl, rfl⟩
  generalize hw0 : ((w.alloc (.cells (nums .u32 vs).toArray 112)).alloc (.cells (nums .u32 (List.replicate 16 0)).toArray 112)) = w0 at X0
  have HW0 := Aside0.mk hw0
  clear hw0
  have ML : mixL vs a b c d x y = halfL (halfL vs a b c d x 65536 65536 1048576 4096) a b c d y 16777216 256 33554432 128 := rfl
  generalize hm : mixL vs a b c d x y = R at ML ⊢
  have ML := Aside0.mk ML
  clear hm
  obtain ⟨xa, ha⟩ : ∃ z, z = vs.getD a 0 := ⟨_, rfl⟩
  obtain ⟨xb, hb⟩ : ∃ z, z = vs.getD b 0 := ⟨_, rfl⟩
  obtain ⟨xc, hc⟩ : ∃ z, z = vs.getD c 0 := ⟨_, rfl⟩
  obtain ⟨xd, hd⟩ : ∃ z, z = vs.getD d 0 := ⟨_, rfl⟩
  rw [← ha, ← hb, ← hc, ← hd] at X0
  have l0 : vs.length = 16 := hl
  have X1 := X0.set_a (hA xa xb x) la ab ac ad
  have X2 := X1.set_d (hD xa xb xd x 65536 65536) ld ad.symm bd.symm cd.symm
  have X3 := X2.set_c (hC xa xb xc xd x 65536 65536) lc ac.symm bc.symm cd
  have X4 := X3.set_b (hB xa xb xc xd x 65536 65536 1048576 4096) lb ab.symm bc bd
  obtain ⟨v4, hv4⟩ : ∃ z, z = (((vs.set a (hA xa xb x)).set d (hD xa xb xd x 65536 65536)).set c (hC xa xb xc xd x 65536 65536)).set b (hB xa xb xc xd x 65536 65536 1048576 4096) := ⟨_, rfl⟩
  have HF1 : halfL vs a b c d x 65536 65536 1048576 4096 = v4 := by rw [hv4]; unfold halfL; rw [← ha, ← hb, ← hc, ← hd]
  obtain ⟨ya, hya⟩ : ∃ z, z = hA xa xb x := ⟨_, rfl⟩
  obtain ⟨yb, hyb⟩ : ∃ z, z = hB xa xb xc xd x 65536 65536 1048576 4096 := ⟨_, rfl⟩
  obtain ⟨yc, hyc⟩ : ∃ z, z = hC xa xb xc xd x 65536 65536 := ⟨_, rfl⟩
  obtain ⟨yd, hyd⟩ : ∃ z, z = hD xa xb xd x 65536 65536 := ⟨_, rfl⟩
  rw [← hv4, ← hya, ← hyb, ← hyc, ← hyd] at X4
  rw [← hya] at X1
  rw [← hya, ← hyd] at X2
  rw [← hya, ← hyc, ← hyd] at X3
  have X5 := X4.set_a (hA ya yb y) la ab ac ad
  have X6 := X5.set_d (hD ya yb yd y 16777216 256) ld ad.symm bd.symm cd.symm
  have X7 := X6.set_c (hC ya yb yc yd y 16777216 256) lc ac.symm bc.symm cd
  have X8 := X7.set_b (hB ya yb yc yd y 16777216 256 33554432 128) lb ab.symm bc bd
  have ME : R = (((v4.set a (hA ya yb y)).set d (hD ya yb yd y 16777216 256)).set c (hC ya yb yc yd y 16777216 256)).set b (hB ya yb yc yd y 16777216 256 33554432 128) := by
    rw [ML.out, HF1]
    unfold halfL
    rw [X4.ga, X4.gb, X4.gc, X4.gd]
  have LM : R.length = 16 := by rw [ME]; exact X8.len
  obtain ⟨w1, hw1⟩ : ∃ z, z = (w0.setCell ⟨w.heap.size, a, none⟩ (.int .u32 (ya))).drew := ⟨_, rfl⟩
  rw [← hw1] at X1 X2 X3 X4 X5 X6 X7 X8
  obtain ⟨w2, hw2⟩ : ∃ z, z = (w1.setCell ⟨w.heap.size, d, none⟩ (.int .u32 (yd))).drew := ⟨_, rfl⟩
  rw [← hw2] at X2 X3 X4 X5 X6 X7 X8
  obtain ⟨w3, hw3⟩ : ∃ z, z = (w2.setCell ⟨w.heap.size, c, none⟩ (.int .u32 (yc))).drew := ⟨_, rfl⟩
  rw [← hw3] at X3 X4 X5 X6 X7 X8
  obtain ⟨w4, hw4⟩ : ∃ z, z = (w3.setCell ⟨w.heap.size, b, none⟩ (.int .u32 (yb))).drew := ⟨_, rfl⟩
  rw [← hw4] at X4 X5 X6 X7 X8
  obtain ⟨w5, hw5⟩ : ∃ z, z = (w4.setCell ⟨w.heap.size, a, none⟩ (.int .u32 (hA ya yb y))).drew := ⟨_, rfl⟩
  rw [← hw5] at X5 X6 X7 X8
  obtain ⟨w6, hw6⟩ : ∃ z, z = (w5.setCell ⟨w.heap.size, d, none⟩ (.int .u32 (hD ya yb yd y 16777216 256))).drew := ⟨_, rfl⟩
  rw [← hw6] at X6 X7 X8
  obtain ⟨w7, hw7⟩ : ∃ z, z = (w6.setCell ⟨w.heap.size, c, none⟩ (.int .u32 (hC ya yb yc yd y 16777216 256))).drew := ⟨_, rfl⟩
  rw [← hw7] at X7 X8
  obtain ⟨w8, hw8⟩ : ∃ z, z = (w7.setCell ⟨w.heap.size, b, none⟩ (.int .u32 (hB ya yb yc yd y 16777216 256 33554432 128))).drew := ⟨_, rfl⟩
  rw [← hw8] at X8
  rw [← ME] at X8
  have X0 := Aside0.mk X0
  have X1 := Aside0.mk X1
  have X2 := Aside0.mk X2
  have X3 := Aside0.mk X3
  have X4 := Aside0.mk X4
  have X5 := Aside0.mk X5
  have X6 := Aside0.mk X6
  have X7 := Aside0.mk X7
  have X8 := Aside0.mk X8
  have J1 := Aside0.mk hw1
  have J2 := Aside0.mk hw2
  have J3 := Aside0.mk hw3
  have J4 := Aside0.mk hw4
  have J5 := Aside0.mk hw5
  have J6 := Aside0.mk hw6
  have J7 := Aside0.mk hw7
  have J8 := Aside0.mk hw8
  have LM := Aside0.mk LM
  have HYA := Aside0.mk hya
  have HYB := Aside0.mk hyb
  have HYC := Aside0.mk hyc
  have HYD := Aside0.mk hyd
  clear hw1 hw2 hw3 hw4 hw5 hw6 hw7 hw8 ha hb hc hd hya hyb hyc hyd hv4 HF1 ME hl l0
  have ia := eq_true (show (a : Int) < 16 by omega)
  have ja := eq_true (show (0 : Int) ≤ (a : Int) by omega)
  have ib := eq_true (show (b : Int) < 16 by omega)
  have jb := eq_true (show (0 : Int) ≤ (b : Int) by omega)
  have ic := eq_true (show (c : Int) < 16 by omega)
  have jc := eq_true (show (0 : Int) ≤ (c : Int) by omega)
  have id := eq_true (show (d : Int) < 16 by omega)
  have jd := eq_true (show (0 : Int) ≤ (d : Int) by omega)
  clear ab ac ad bc bd cd
  go_enter Try.func87, Try.ntmps87
  go_wp2_with fail
  rw [show ((w.alloc (.cells (nums .u32 vs).toArray 112)).alloc (.cells #[.int .u32 0, .int .u32 0, .int .u32 0, .int .u32 0, .int .u32 0, .int .u32 0, .int .u32 0, .int .u32 0, .int .u32 0, .int .u32 0, .int .u32 0, .int .u32 0, .int .u32 0, .int .u32 0, .int .u32 0, .int .u32 0] 112)) = w0 from HW0.out]
  have fz := X0.out.blk.frozen a
  have qa := X0.out.q a la X0.out.ga
  have qb := X0.out.q b lb X0.out.gb
  have qc := X0.out.q c lc X0.out.gc
  have qd := X0.out.q d ld X0.out.gd
  go_still_tail 11, (by kernel_rfl)
  go_wp2_with fail
  rw [show (w0.setCell ⟨w.heap.size, a, none⟩ (.int .u32 (((xa + xb) % 4294967296 + x) % 4294967296))).drew = w1 from by rw [mod_add3, show (xa + (xb + x) % 4294967296) % 4294967296 = ya from HYA.out.symm]; exact J1.out.symm]
  clear fz qa qb qc qd
  have fz := X1.out.blk.frozen d
  have qa := X1.out.q a la X1.out.ga
  have qb := X1.out.q b lb X1.out.gb
  have qc := X1.out.q c lc X1.out.gc
  have qd := X1.out.q d ld X1.out.gd
  refine wp_region_still_tail 10 (by kernel_rfl) (by kernel_rfl) ?_
  simp only [List.take_succ_cons, List.take_zero, List.drop_succ_cons, List.drop_zero]
  repeat still_step
  still_call (turned16 _ _)
  repeat still_step
  refine wpStill_nil ?_
  go_wp2_with fail
  rw [show (w1.setCell ⟨w.heap.size, d, none⟩ (.int .u32 (rot (Go.bits .xor .u32 xd ya) 65536 65536))).drew = w2 from by rw [show rot (Go.bits .xor .u32 xd ya) 65536 65536 = yd from by rw [HYD.out, HYA.out]; rfl]; exact J2.out.symm]
  clear fz qa qb qc qd
  have fz := X2.out.blk.frozen c
  have qa := X2.out.q a la X2.out.ga
  have qb := X2.out.q b lb X2.out.gb
  have qc := X2.out.q c lc X2.out.gc
  have qd := X2.out.q d ld X2.out.gd
  go_still_tail 9, (by kernel_rfl)
  go_wp2_with fail
  rw [show (w2.setCell ⟨w.heap.size, c, none⟩ (.int .u32 ((xc + yd) % 4294967296))).drew = w3 from by rw [show (xc + yd) % 4294967296 = yc from by rw [HYC.out, HYD.out]; rfl]; exact J3.out.symm]
  clear fz qa qb qc qd
  have fz := X3.out.blk.frozen b
  have qa := X3.out.q a la X3.out.ga
  have qb := X3.out.q b lb X3.out.gb
  have qc := X3.out.q c lc X3.out.gc
  have qd := X3.out.q d ld X3.out.gd
  refine wp_region_still_tail 10 (by kernel_rfl) (by kernel_rfl) ?_
  simp only [List.take_succ_cons, List.take_zero, List.drop_succ_cons, List.drop_zero]
  repeat still_step
  still_call (turned12 _ _)
  repeat still_step
  refine wpStill_nil ?_
  go_wp2_with fail
  rw [show (w3.setCell ⟨w.heap.size, b, none⟩ (.int .u32 (rot (Go.bits .xor .u32 xb yc) 1048576 4096))).drew = w4 from by rw [show rot (Go.bits .xor .u32 xb yc) 1048576 4096 = yb from by rw [HYB.out, HYC.out]; rfl]; exact J4.out.symm]
  clear fz qa qb qc qd
  have fz := X4.out.blk.frozen a
  have qa := X4.out.q a la X4.out.ga
  have qb := X4.out.q b lb X4.out.gb
  have qc := X4.out.q c lc X4.out.gc
  have qd := X4.out.q d ld X4.out.gd
  go_still_tail 11, (by kernel_rfl)
  go_wp2_with fail
  rw [show (w4.setCell ⟨w.heap.size, a, none⟩ (.int .u32 (((ya + yb) % 4294967296 + y) % 4294967296))).drew = w5 from by rw [mod_add3]; exact J5.out.symm]
  clear fz qa qb qc qd
  have fz := X5.out.blk.frozen d
  have qa := X5.out.q a la X5.out.ga
  have qb := X5.out.q b lb X5.out.gb
  have qc := X5.out.q c lc X5.out.gc
  have qd := X5.out.q d ld X5.out.gd
  refine wp_region_still_tail 10 (by kernel_rfl) (by kernel_rfl) ?_
  simp only [List.take_succ_cons, List.take_zero, List.drop_succ_cons, List.drop_zero]
  repeat still_step
  still_call (turned8 _ _)
  repeat still_step
  refine wpStill_nil ?_
  go_wp2_with fail
  rw [show (w5.setCell ⟨w.heap.size, d, none⟩ (.int .u32 (rot (Go.bits .xor .u32 yd (hA ya yb y)) 16777216 256))).drew = w6 from J6.out.symm]
  clear fz qa qb qc qd
  have fz := X6.out.blk.frozen c
  have qa := X6.out.q a la X6.out.ga
  have qb := X6.out.q b lb X6.out.gb
  have qc := X6.out.q c lc X6.out.gc
  have qd := X6.out.q d ld X6.out.gd
  go_still_tail 9, (by kernel_rfl)
  go_wp2_with fail
  rw [show (w6.setCell ⟨w.heap.size, c, none⟩ (.int .u32 ((yc + hD ya yb yd y 16777216 256) % 4294967296))).drew = w7 from J7.out.symm]
  clear fz qa qb qc qd
  have B0 := Aside0.mk X8.out.blk
  have B1 := Aside0.mk X8.out.res
  have fz := X7.out.blk.frozen b
  have qa := X7.out.q a la X7.out.ga
  have qb := X7.out.q b lb X7.out.gb
  have qc := X7.out.q c lc X7.out.gc
  have qd := X7.out.q d ld X7.out.gd
  refine wp_region_still_tail 10 (by kernel_rfl) (by kernel_rfl) ?_
  simp only [List.take_succ_cons, List.take_zero, List.drop_succ_cons, List.drop_zero]
  repeat still_step
  still_call (turned7 _ _)
  repeat still_step
  refine wpStill_nil ?_
  go_wp2_with (first | (rw [show (w7.setCell ⟨w.heap.size, b, none⟩ (.int .u32 (rot (Go.bits .xor .u32 yb (hC ya yb yc yd y 16777216 256)) 33554432 128))).drew = w8 from J8.out.symm]) | (refine wpList_load_row rfl 112 (.tmp 7) rfl w.heap.size rfl 112 _ (0, 0) _ B0.out Try.underlying112 rfl (by rw [List.size_toArray, nums_length, LM.out]; kernel_rfl) ?_) | (refine wpList_store_row rfl 112 (.tmp 14) (.tmp 95) rfl (w.heap.size + 1) _ rfl rfl 112 _ B1.out (by rw [List.size_toArray, nums_length, LM.out]; kernel_rfl) (by rw [List.size_toArray, nums_length, List.size_toArray, nums_length, LM.out]; rfl) (nums_all32 _) ?_))
  exact bodyPost_ret (results_cell_row (p := 14) (ty := 112) rfl _ _ (w.heap.size + 1) 112 _ (0, 0) _ rfl (B1.out.rsetRow_ _) Try.underlying112 rfl (by rw [List.size_toArray, nums_length, LM.out]; kernel_rfl)) rfl ⟨rfl, rbelow_setRow X8.out.below (by omega) _⟩
end Go.Proofs.Ytoljjgabgdifbaa.H

