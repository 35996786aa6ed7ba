/- Parts of the proof: J2, J3, H16, J6. -/
import Derived.Test.YtoljjgabgdifbaaZaH13toC1
import Derived.Test.YtoljjgabgdifbaaZaH12
import Derived.Test.YtoljjgabgdifbaaZaG4toJ1
import Derived.Sort.OwnSortedInts
import Derived.Carry
import Derived.Test.YtoljjgabgdifbaaRows
import Derived.Test.YtoljjgabgdifbaaZaG
import Derived.WalkKit
import Derived.ProofKit
import Derived.OpenShut
import Derived.ShutString
import Derived.ChangeOld
import Derived.Below
import Derived.SizedLaws
import Derived.JoinedCond
import Derived.SliceStrings
import Derived.Lib.SmallJoins

namespace Go.Proofs.Ytoljjgabgdifbaa.H
open Go.RowKit Go.Proofs.YtoljjgabgdifbaaW.PrintWords Go.Proofs.YtoljjgabgdifbaaW.PrintLast Go.Proofs.YtoljjgabgdifbaaW.PrintMore
set_option linter.unusedVariables false
set_option linter.unusedSimpArgs false

set_option maxRecDepth 100000 in
set_option maxHeartbeats 4000000 in
theorem grow_nil (n : Nat) (w : World) (hn : n ≤ 5000000000000) :
    Calls Try.prog 55 #[.slice none 0 0, .int .i64 (n : Int)] w fun e w' => ∃ v, e = .returned v ∧ Kd.R k36 36 w' w.heap.size (fun _ => True) v [] ∧ Below w.heap.size w w' := by
  have h1 := eq_false (show ¬ (n : Int) < 0 by omega)
  have h2 : IntKind.i64.wrap (n : Int) = (n : Int) := IntWalk.i64_in _ (by omega)
  by_cases c : 0 < n
  · have h3 := eq_true (show (0 : Int) < (n : Int) by omega)
    have h4 := eq_true (show 0 < n by omega)
    go_enter Try.func55, Try.ntmps55
    go_wp2_with (((with_reducible refine gate_builtin (b := .append) (xs := #[.tmp 20, .tmp 21]) rfl ?_); at_builtin; refine Kd.R_append_zeros k36 (w0 := w) w.heap.size rfl (.tmp 20) (.tmp 21) 30 3 36 (.agg #[(.int .i64 0), (.string ⟨#[]⟩)]) 24 rfl Try.underlying30 Try.underlying3 info36 rfl (by decide) (by omega) (.slice none 0 0) [] (⟨0, ⟨#[]⟩⟩ : S36) (n : Int) (fun _ => True) rfl rfl ?aP (fun _ _ => trivial) ?aO (by omega) ?aB ?aS ?aL ?_; (case aP => exact k36_mkM _ _ _ (⟨0, ⟨#[]⟩⟩ : S36)); (case aO => exact Kd.R_nil _ _ _ _ _); (case aB => exact Below.refl _ _); (case aS => exact Nat.le_refl _); (case aL => simp; omega); intro v1 w1 ho hb hg hat; obtain ⟨A, cp, rfl⟩ := Kd.R_slice ho; have HO := Aside0.mk (Kd.R_take ho (Nat.zero_le _)); have HB := Aside0.mk hb; clear ho hb hg hat))
    go_ret
    exact ⟨_, rfl, HO.out, HB.out⟩
  · obtain rfl : n = 0 := by omega
    go_enter Try.func55, Try.ntmps55
    go_wp2_with fail
    go_ret
    exact ⟨_, rfl, Kd.R_nil _ _ _ _ _, Below.refl _ _⟩
set_option maxRecDepth 100000 in
set_option maxHeartbeats 8000000 in
theorem concat_calls (A : Option Addr) (c : Nat) (l : List S36) (B : Option Addr) (d : Nat) (m : List S36) (bk : Nat) (w : World) (hA : Kd.C k36 w A l.length l) (hc : l.length ≤ c) (hB : Kd.C k36 w B m.length m) (hd : m.length ≤ d)
    (hq : Blk w bk 30 #[.slice A l.length c, .slice B m.length d]) (hl : l.length ≤ 2000000) (hm : m.length ≤ 2000000) :
    Calls Try.prog 44 #[.slice (some ⟨bk, 0, none⟩) 2 2] w fun e w' => ∃ v, e = .returned v ∧ Kd.R k36 36 w' w.heap.size (fun _ => True) v (l ++ m) ∧ Below w.heap.size w w' := by
  have q0 : w.cell? ⟨bk, 0, none⟩ = some (.slice A l.length c) := hq.cell 0
  have q1 : w.cell? ⟨bk, 1, none⟩ = some (.slice B m.length d) := hq.cell 1
  have HQ := Aside0.mk hq
  have e0 : IntKind.i64.wrap (l.length : Int) = (l.length : Int) := IntWalk.i64_in _ (by omega)
  have e1 : IntKind.i64.wrap ((l.length : Int) + (m.length : Int)) = (l.length : Int) + (m.length : Int) := IntWalk.i64_in _ (by omega)
  have f0 := eq_false (show ¬ (l.length : Int) < 0 by omega)
  have f1 := eq_false (show ¬ (l.length : Int) + (m.length : Int) < 0 by omega)
  have GN := Aside0.mk (grow_nil (l.length + m.length) w (by omega))
  rw [show (((l.length + m.length : Nat)) : Int) = (l.length : Int) + (m.length : Int) by omega] at GN
  go_enter Try.func44, Try.ntmps44
  have HA := Aside0.mk hA
  have HB := Aside0.mk hB
  clear hA hB hq
  go_wp2_with fail
  go_loopg [3, 11] 2 (fun gk v3 v11 wl => ∃ i : Nat, v11 = .int .i64 i ∧ Aside0 (i + gk = 2) ∧ (i = 0 ∧ v3 = .int .i64 0 ∨ i = 1 ∧ v3 = .int .i64 l.length ∨ i = 2 ∧ v3 = .int .i64 ((l.length : Int) + (m.length : Int))) ∧ w = wl)
  case atStart => exact ⟨0, rfl, ⟨rfl⟩, Or.inl ⟨rfl, rfl⟩, rfl⟩
  case round =>
    obtain ⟨i, rfl, hi, hv, hw⟩ := hrel
    subst hw
    rcases hv with ⟨rfl, rfl⟩ | ⟨rfl, rfl⟩ | ⟨rfl, rfl⟩
    · go_wp2_with fail
      go_roundg 1
      case measure => have := hi.out; omega
      case rel => exact ⟨1, rfl, ⟨rfl⟩, Or.inr (Or.inl ⟨rfl, rfl⟩), rfl⟩
    · go_wp2_with fail
      go_roundg 0
      case measure => have := hi.out; omega
      case rel => exact ⟨2, rfl, ⟨rfl⟩, Or.inr (Or.inr ⟨rfl, rfl⟩), rfl⟩
    · go_wp2_with fail
      refine GN.out.mono ?_
      rintro e w1 ⟨v, rfl, ho, hb⟩
      have HO := Aside0.mk ho
      have HW := Aside0.mk hb
      clear ho hb q0 q1
      go_wp2_with fail
      go_loopg [6, 27] 2 (fun gk v6 v27 wl => ∃ i : Nat, v27 = .int .i64 i ∧ Aside0 (i + gk = 2) ∧ Aside0 (i = 0 ∧ Kd.R k36 36 wl w.heap.size (fun _ => True) v6 [] ∨ i = 1 ∧ Kd.R k36 36 wl w.heap.size (fun _ => True) v6 l ∨ i = 2 ∧ Kd.R k36 36 wl w.heap.size (fun _ => True) v6 (l ++ m)) ∧ Aside0 (Below w.heap.size w wl))
      case atStart => exact ⟨0, rfl, ⟨rfl⟩, ⟨Or.inl ⟨rfl, HO.out⟩⟩, HW⟩
      case round =>
        clear HO HW
        obtain ⟨i, rfl, hi, hv, HW⟩ := hrel
        have q0 : wr.cell? ⟨bk, 0, none⟩ = some (.slice A l.length c) := (HW.out.cell (p := ⟨bk, 0, none⟩) HQ.out.lt).trans (HQ.out.cell 0)
        have q1 : wr.cell? ⟨bk, 1, none⟩ = some (.slice B m.length d) := (HW.out.cell (p := ⟨bk, 1, none⟩) HQ.out.lt).trans (HQ.out.cell 1)
        rcases hv.out with ⟨rfl, ho⟩ | ⟨rfl, ho⟩ | ⟨rfl, ho⟩
        · have HO := Aside0.mk ho
          clear ho hv
          go_wp2_with ((with_reducible refine gate_builtin (b := .append) (xs := #[.tmp 31, .tmp 32]) rfl ?_); at_builtin; refine Kd.R_append_rows k36 (Rr := k36.K wr) (w0 := w) w.heap.size rfl (.tmp 31) (.tmp 32) 30 36 (.agg #[(.int .i64 0), (.string ⟨#[]⟩)]) 24 rfl Try.underlying30 info36 rfl (by decide) (by omega) _ [] l A l.length c (fun _ => True) (fun _ => False) rfl rfl HO.out (Kd.C_below HA.out HW.out) (fun x cs h => by rw [k36_open h]; exact k36_mkM _ _ _ x) (fun _ h => h.elim) (fun _ _ => trivial) HW.out HW.out.size ?aL ?_; (case aL => first | omega | (simp; omega)); intro v1 w2 ho hb hg hat; have HO2 := Aside0.mk ho; have HW2 := Aside0.mk hb; clear ho hb hg hat)
          go_roundg 1
          case measure => have := hi.out; omega
          case rel => exact ⟨1, rfl, ⟨rfl⟩, ⟨Or.inr (Or.inl ⟨rfl, HO2.out⟩)⟩, HW2⟩
        · have HO := Aside0.mk ho
          clear ho hv
          go_wp2_with ((with_reducible refine gate_builtin (b := .append) (xs := #[.tmp 31, .tmp 32]) rfl ?_); at_builtin; refine Kd.R_append_rows k36 (Rr := k36.K wr) (w0 := w) w.heap.size rfl (.tmp 31) (.tmp 32) 30 36 (.agg #[(.int .i64 0), (.string ⟨#[]⟩)]) 24 rfl Try.underlying30 info36 rfl (by decide) (by omega) _ l m B m.length d (fun _ => True) (fun _ => False) rfl rfl HO.out (Kd.C_below HB.out HW.out) (fun x cs h => by rw [k36_open h]; exact k36_mkM _ _ _ x) (fun _ h => h.elim) (fun _ _ => trivial) HW.out HW.out.size ?aL ?_; (case aL => first | omega | (simp; omega)); intro v1 w2 ho hb hg hat; have HO2 := Aside0.mk ho; have HW2 := Aside0.mk hb; clear ho hb hg hat)
          go_roundg 0
          case measure => have := hi.out; omega
          case rel => exact ⟨2, rfl, ⟨rfl⟩, ⟨Or.inr (Or.inr ⟨rfl, HO2.out⟩)⟩, HW2⟩
        · have HO := Aside0.mk ho
          clear ho hv
          go_wp2_with fail
          go_ret
          exact ⟨_, rfl, HO.out, HW.out⟩
end Go.Proofs.Ytoljjgabgdifbaa.H


namespace Go.Proofs.Ytoljjgabgdifbaa.H
open Go.RowKit Go.Proofs.YtoljjgabgdifbaaW.PrintWords Go.Proofs.YtoljjgabgdifbaaW.PrintLast Go.Proofs.YtoljjgabgdifbaaW.PrintMore
set_option linter.unusedVariables false
set_option linter.unusedSimpArgs false

theorem info3 : (Try.prog.info? 3).map (fun i => (i.zero, i.size, i.bytes)) = some (some (.int .i64 0), 1, 8) := by kernel_rfl
def srt (ns : List Int) : List Int := ns.mergeSort fun x y => decide (x ≤ y)
theorem srt_len (ns : List Int) : (srt ns).length = ns.length := List.length_mergeSort ns
theorem sort_calls (v : Value) (ns : List Int) (w : World) (base : Nat) (h : Kd.R (Kd.int .i64) 3 w base (fun _ => True) v ns) (hl : ns.length < 4611686018427387904) :
    Calls Try.prog 45 #[v] w fun e w' => e = .returned (.tuple #[]) ∧ Kd.R (Kd.int .i64) 3 w' base (fun _ => True) v (srt ns) ∧ w.grownBy w' v.ownBlock := by
  have ho := Kd.own_of_R h
  rcases ho.2 with ⟨rfl, hn⟩ | ⟨g, cap, cur, rfl, hg, hb, h1, h2, h3, h4⟩
  · obtain rfl : ns = [] := List.eq_nil_of_length_eq_zero hn
    refine (Try.slices_Sort_int_none none 0 w).mono ?_
    rintro e w' ⟨rfl, rfl⟩
    exact ⟨rfl, by simpa [srt] using h, World.grownBy.refl _ _⟩
  · have hlt : g < w.heap.size := (Array.getElem?_eq_some_iff.1 hb).1
    refine (Try.slices_Sort_int g 0 cap ns w (holds_of_blockI hb (by simpa [encs] using h4)) hlt hl).mono ?_
    rintro e w' ⟨rfl, n, os, rfl⟩
    refine ⟨rfl, ?_, grownBy_sortedI _⟩
    have z := ownsRow_sortedI (n := n) (os := os) (base := base) (ss := ns) (ts := srt ns) (srt_len ns) hg hb h1 h2 (by simpa using h3)
    have z2 : (Go.Sort.grow (Go.Sort.putRow (Value.int .i64) (Go.Sort.ahead w n) g 0 (srt ns).toArray) os).ownsRow base 3 1 (.slice (some ⟨g, 0, none⟩) ns.length cap) (srt ns).length (encs (Value.int .i64) (srt ns)) := by
      rw [srt_len]
      exact z
    exact Kd.R_of_own z2 (fun _ _ => trivial)
theorem R_grown {α : Type} {d : Kd α} {e : Nat} {w w' : World} {base : Nat} {ok : Nat → Prop} {v : Value} {xs : List α} {row : Option Nat} (h : Kd.R d e w base ok v xs) (hg : w.grownBy w' row) (hne : ∀ k, ok k → base ≤ k → k < w.heap.size → some k ≠ row) : Kd.R d e w' base ok v xs :=
  Kd.R_mono (Kd.R_move (Kd.R_bound h) (fun k hk => hg.block k hk.2.2.1 (hne k hk.1 hk.2.1 hk.2.2.1))) (fun k hk => hk.1)
/-- The numbers of the first i writes, each once. -/
def nsK (ws : List S36) : Nat → List Int
  | 0 => []
  | i + 1 => if (rd_T36 ws (i : Int)).f0 ∈ nsK ws i then nsK ws i else nsK ws i ++ [(rd_T36 ws (i : Int)).f0]
/-- What the last one of the first i writes to a number is. -/
def lastK (ws : List S36) : Nat → Int → Option ByteArray
  | 0 => fun _ => none
  | i + 1 => fun y => if y = (rd_T36 ws (i : Int)).f0 then some (rd_T36 ws (i : Int)).f1 else lastK ws i y
theorem lastK_isSome (ws : List S36) (y : Int) : ∀ i, (lastK ws i y).isSome = decide (y ∈ nsK ws i)
  | 0 => by simp [lastK, nsK]
  | i + 1 => by
    have ih := lastK_isSome ws y i
    by_cases c : (rd_T36 ws (i : Int)).f0 ∈ nsK ws i
    · rw [nsK, if_pos c]
      show (if y = _ then some _ else lastK ws i y).isSome = _
      by_cases e : y = (rd_T36 ws (i : Int)).f0
      · rw [if_pos e, e]
        simp [c]
      · rw [if_neg e]
        exact ih
    · rw [nsK, if_neg c]
      show (if y = _ then some _ else lastK ws i y).isSome = _
      by_cases e : y = (rd_T36 ws (i : Int)).f0
      · rw [if_pos e, e]
        simp
      · rw [if_neg e, ih]
        simp [e]
theorem nsK_len (ws : List S36) : ∀ i, (nsK ws i).length ≤ i
  | 0 => Nat.le_refl _
  | i + 1 => by
    have := nsK_len ws i
    rw [nsK]
    split
    · omega
    · rw [List.length_append, List.length_singleton]; omega
theorem nsK_mem (ws : List S36) (y : Int) : ∀ i, y ∈ nsK ws i → ∃ j : Nat, y = (rd_T36 ws (j : Int)).f0
  | 0, h => by simp [nsK] at h
  | i + 1, h => by
    rw [nsK] at h
    split at h
    · exact nsK_mem ws y i h
    · rw [List.mem_append, List.mem_singleton] at h
      rcases h with h | h
      · exact nsK_mem ws y i h
      · exact ⟨i, h⟩
/-- The last writes of each number, rising. -/
def bothL (ws : List S36) : List S36 := (srt (nsK ws ws.length)).map fun n => ⟨n, (lastK ws ws.length n).getD ByteArray.empty⟩

set_option maxRecDepth 100000 in
set_option maxHeartbeats 8000000 in
theorem both_calls (A : Option Addr) (c : Nat) (l : List S36) (B : Option Addr) (d : Nat) (m : List S36) (w : World) (hA : Kd.C k36 w A l.length l) (hc : l.length ≤ c) (hB : Kd.C k36 w B m.length m) (hd : m.length ≤ d)
    (hl : l.length ≤ 500000) (hm : m.length ≤ 500000) (hwf : ∀ j : Nat, (Lit.int .i64 (rd_T36 (l ++ m) (j : Int)).f0).wf = true) (hsz : ∀ j : Nat, (rd_T36 (l ++ m) (j : Int)).f1.size ≤ maxLen) :
    Calls Try.prog 34 #[.slice A l.length c, .slice B m.length d] w fun e w' => ∃ v, e = .returned v ∧ Kd.R k36 36 w' w.heap.size (fun _ => True) v (bothL (l ++ m)) ∧ Below w.heap.size w w' := by
  have hmk : ∀ w : World, (Instr.makeMap 69 none).run Try.prog w = .ok (.map (some w.heap.size)) (w.alloc (.map #[] 0)) := fun w => run_makeMap 69 w
  have W2 := ((Below.refl w.heap.size w).alloc (Nat.le_refl _) (.map #[] 0)).alloc (by simp) (.cells #[.slice A l.length c, .slice B m.length d] 30)
  have BQ := Blk.new (w.alloc (.map #[] 0)) 30 #[.slice A l.length c, .slice B m.length d]
  rw [sz] at BQ
  have CC := Aside0.mk (concat_calls A c l B d m (w.heap.size + 1) _ (Kd.C_below hA W2) hc (Kd.C_below hB W2) hd BQ (by omega) (by omega))
  have MM := Aside0.mk ((MapIs.made w).alloc (.cells #[.slice A l.length c, .slice B m.length d] 30))
  have hlen : (l ++ m).length ≤ 1000000 := by rw [List.length_append]; omega
  have W2 := Aside0.mk W2
  have HWF := Aside0.mk hwf
  have HSZ := Aside0.mk hsz
  have HLEN := Aside0.mk hlen
  clear hA hB BQ hwf hsz hl hm hlen
  generalize hws : l ++ m = ws at CC HWF HSZ HLEN ⊢
  clear hws
  go_enter Try.func34, Try.ntmps34
  go_wp2_with fail
  refine CC.out.mono ?_
  rintro e w3 ⟨v, rfl, hR, hb⟩
  obtain ⟨A', c', rfl⟩ := Kd.R_slice hR
  have W3 := Aside0.mk (below_then W2.out W2.out.size hb)
  have MM3 : Aside0 (MapIs w3 w.heap.size 0 (lastK ws 0)) := ⟨MM.out.kept (row := none) ⟨hb.os, hb.tape, hb.output, hb.size, fun k hk _ => hb.block k hk⟩ (by simp)⟩
  rw [sz, sz] at hR
  have RW3 : Aside0 (Kd.R k36 36 w3 (w.heap.size + 1 + 1) (fun k => k < w3.heap.size) (.slice A' ws.length c') ws) := ⟨Kd.R_mono (Kd.R_bound hR) (fun k hk => hk.2.2.1)⟩
  have hs3 := hb.size
  rw [sz, sz] at hs3
  have HH : Aside0 (w3.heap.size ≤ w3.heap.size ∧ w.heap.size < w3.heap.size) := ⟨by omega, by omega⟩
  clear hR hb CC MM W2 hs3
  obtain ⟨H1, hH1⟩ : ∃ H1, H1 = w3.heap.size := ⟨_, rfl⟩
  rw [← hH1] at RW3
  have HH : Aside0 (H1 ≤ w3.heap.size ∧ w.heap.size < H1) := ⟨by rw [hH1]; exact HH.out⟩
  clear hH1
  go_wp2_with fail
  go_loopg [6, 20] ws.length (fun gk v6 v20 wl => ∃ (i : Nat) (vn : Value), vn = v6 ∧ v20 = .int .i64 i ∧ Aside0 (i + gk = ws.length) ∧ Aside0 (Kd.R k36 36 wl (w.heap.size + 1 + 1) (fun k => k < H1) (.slice A' ws.length c') ws) ∧ Aside0 (Kd.R (Kd.int .i64) 3 wl H1 (fun _ => True) vn (nsK ws i)) ∧ Aside0 (MapIs wl w.heap.size i (lastK ws i)) ∧ Aside0 (Below w.heap.size w wl) ∧ Aside0 (H1 ≤ wl.heap.size ∧ w.heap.size < H1))
  case atStart => exact ⟨0, _, rfl, rfl, ⟨by omega⟩, RW3, ⟨Kd.R_nil _ _ _ _ _⟩, MM3, W3, HH⟩
  case round =>
    clear RW3 MM3 W3 HH
    obtain ⟨i, vn, hvn, rfl, hi, RW, RN, MM, BW, HH⟩ := hrel
    subst hvn
    by_cases hlt : i < ws.length
    · have lt1 := eq_true (show (i : Int) < (ws.length : Int) by omega)
      have lt0 := eq_true (show (0 : Int) ≤ (i : Int) by omega)
      have ww : IntKind.i64.wrap ((i : Int) + 1) = (i : Int) + 1 := IntWalk.i64_in _ (by have := HLEN.out; omega)
      obtain ⟨ad, eA, y1, y2⟩ := at_T36 (Kd.R_reads' RW.out).2.2 (i : Int) (by omega) (by omega)
      cases eA
      rw [Int.toNat_natCast] at y1 y2
      have wf := HWF.out i
      have sg := HSZ.out i
      have en : nsK ws (i + 1) = if (rd_T36 ws (i : Int)).f0 ∈ nsK ws i then nsK ws i else nsK ws i ++ [(rd_T36 ws (i : Int)).f0] := rfl
      have el : lastK ws (i + 1) = fun y => if y = (rd_T36 ws (i : Int)).f0 then some (rd_T36 ws (i : Int)).f1 else lastK ws i y := rfl
      have ei := lastK_isSome ws (rd_T36 ws (i : Int)).f0 i
      generalize (rd_T36 ws (i : Int)).f0 = x at y1 wf en el ei
      generalize (rd_T36 ws (i : Int)).f1 = s at y2 sg el
      have BK := Blk.new wr 36 #[.int .i64 x, .string s]
      have RWa := Kd.R_alloc RW.out (.cells #[.int .i64 x, .string s] 36)
      have RNa := Kd.R_alloc RN.out (.cells #[.int .i64 x, .string s] 36)
      have MMa := MM.out.alloc (.cells #[.int .i64 x, .string s] 36)
      have BWa := BW.out.alloc BW.out.size (.cells #[.int .i64 x, .string s] 36)
      have Sa := sz wr (.cells #[.int .i64 x, .string s] 36)
      generalize hwa : wr.alloc (.cells #[.int .i64 x, .string s] 36) = wa at BK RWa RNa MMa BWa Sa
      have HWA := Aside0.mk hwa
      clear hwa
      have k0 : wa.cell? ⟨wr.heap.size, 0, none⟩ = some (.int .i64 x) := BK.cell 0
      have k1 : wa.cell? ⟨wr.heap.size, 1, none⟩ = some (.string s) := BK.cell 1
      obtain ⟨s0, hlk⟩ := MMa.look_ok wf
      rw [ei] at hlk
      have HA1 := Aside0.mk (show H1 ≤ wa.heap.size by have := HH.out; omega)
      have RNlt : ∀ k, vn.ownBlock = some k → H1 ≤ k ∧ k < wr.heap.size := fun k hk => ⟨((Kd.R_bound RN.out).1 k hk).2.1, ((Kd.R_bound RN.out).1 k hk).2.2.1⟩
      by_cases hin : x ∈ nsK ws i
      · rw [if_pos hin] at en
        rw [decide_eq_true hin] at hlk
        obtain ⟨w5, hup, MM5, hg5⟩ := MMa.update (by have := HLEN.out; omega) wf sg
        have RW5 := Aside0.mk (R_grown RWa hg5 (fun k _ hb _ e => by have := Option.some.inj e; omega))
        have RN5 := R_grown RNa hg5 (fun k _ hb _ e => by have := Option.some.inj e; have := HH.out; omega)
        have BW5 := Aside0.mk (BWa.grown hg5 BWa.size (fun k hk => by cases hk; exact Nat.le_refl _))
        have H5 : Aside0 (H1 ≤ w5.heap.size ∧ w.heap.size < H1) := ⟨by have := hg5.size; have := HH.out; have := HA1.out; omega⟩
        rw [← en] at RN5
        rw [← el] at MM5
        have RN5 := Aside0.mk RN5
        have MM5 := Aside0.mk MM5
        clear en el ei hg5 RWa RNa MMa BWa Sa BK RNlt hin
        go_wp2_with (rw [show wr.alloc (.cells #[.int .i64 x, .string s] 36) = wa from HWA.out])
        go_roundg (ws.length - i - 1)
        case measure => have := hi.out; omega
        case rel => exact ⟨i + 1, _, rfl, by push_cast; rfl, ⟨by have := hi.out; omega⟩, RW5, RN5, MM5, BW5, H5⟩
      · rw [if_neg hin] at en
        rw [decide_eq_false hin] at hlk
        have EN := Aside0.mk en
        have EL := Aside0.mk el
        have BK := Aside0.mk BK
        have RWa := Aside0.mk RWa
        have RNa := Aside0.mk RNa
        have MMa := Aside0.mk MMa
        have BWa := Aside0.mk BWa
        have Sa := Aside0.mk Sa
        have RNlt := Aside0.mk RNlt
        clear en el ei hin
        go_wp2_with (first | (rw [show wr.alloc (.cells #[.int .i64 x, .string s] 36) = wa from HWA.out]) | ((with_reducible refine gate_builtin (b := .append) (xs := #[.tmp 33, .tmp 36]) rfl ?_); at_builtin; rw [show wr.heap.size + 1 = wa.heap.size from Sa.out.symm]; refine Kd.R_append (Kd.int .i64) (w0 := wa) H1 rfl (.tmp 33) (.tmp 36) 70 3 (.int .i64 0) 8 rfl Try.underlying70 info3 rfl (by decide) (by omega) _ (nsK ws i) x [.int .i64 x] (fun _ => True) (fun _ => False) rfl rfl ?aP (fun _ hk => hk.elim) ?aF ?aO ?aB ?aS ?aL ?_; (case aP => exact rfl); (case aB => exact Below.refl _ _); (case aF => exact fun _ _ => trivial); (case aO => exact RNa.out); (case aS => exact HA1.out); (case aL => have := nsK_len ws i; have := HLEN.out; omega); intro v1 w4 ho hb hg hat; rw [← EN.out] at ho; have RN4 := Aside0.mk ho; have BK4 := BK.out.grown hg (fun e => by have := (RNlt.out _ e.symm).2; omega); have MM4 := MMa.out.kept hg (fun e => by have := (RNlt.out _ e.symm).1; have := HH.out; omega); have RW4 := R_grown RWa.out hg (fun k hk _ _ e => by have := (RNlt.out _ e.symm).1; omega); have BW4 := BWa.out.grown hg BWa.out.size (fun k hk => by have := (RNlt.out _ hk).1; have := HH.out; omega); obtain ⟨w5, hup, MM5, hg5⟩ := MM4.update (by have := HLEN.out; omega) wf sg; have HS5 : Aside0 (H1 ≤ w5.heap.size) := ⟨by have := hg5.size; have := hg.size; have := HA1.out; omega⟩; have k04 : w4.cell? ⟨wr.heap.size, 0, none⟩ = some (.int .i64 x) := BK4.cell 0; have k14 : w4.cell? ⟨wr.heap.size, 1, none⟩ = some (.string s) := BK4.cell 1; have RW5 := Aside0.mk (R_grown RW4 hg5 (fun k _ hb _ e => by have := Option.some.inj e; omega)); have RN5 := Aside0.mk (R_grown RN4.out hg5 (fun k _ hb _ e => by have := Option.some.inj e; have := HH.out; omega)); have BW5 := Aside0.mk (BW4.grown hg5 BW4.size (fun k hk => by cases hk; exact Nat.le_refl _)); rw [← EL.out] at MM5; have MM5 := Aside0.mk MM5; clear ho hb hg hat hg5 RN4 BK4 MM4 RW4 BW4 k0 k1 hlk))
        go_roundg (ws.length - i - 1)
        case measure => have := hi.out; omega
        case rel => exact ⟨i + 1, _, rfl, by push_cast; rfl, ⟨by have := hi.out; omega⟩, RW5, RN5, MM5, BW5, ⟨HS5.out, HH.out.2⟩⟩
    · obtain rfl : i = ws.length := by have := hi.out; omega
      clear hlt hi RW
      obtain ⟨N', n', rfl⟩ := Kd.R_slice RN.out
      have lf := eq_false (show ¬ (ws.length : Int) < (ws.length : Int) by omega)
      have SC := Aside0.mk (sort_calls _ _ wr H1 RN.out (by have := nsK_len ws ws.length; have := HLEN.out; omega))
      have NL := Aside0.mk (nsK_len ws ws.length)
      have RNlt : ∀ k, (Value.slice N' (nsK ws ws.length).length n').ownBlock = some k → H1 ≤ k := fun k hk => ((Kd.R_bound RN.out).1 k hk).2.1
      have LM : Aside0 (∀ j : Nat, j < (srt (nsK ws ws.length)).length → ∃ s, lastK ws ws.length ((srt (nsK ws ws.length)).getD j 0) = some s ∧ (Lit.int .i64 ((srt (nsK ws ws.length)).getD j 0)).wf = true ∧ (bothL ws).take (j + 1) = (bothL ws).take j ++ [⟨(srt (nsK ws ws.length)).getD j 0, s⟩]) := ⟨fun j hj => by
        have e : (srt (nsK ws ws.length)).getD j 0 = (srt (nsK ws ws.length))[j] := by simp [List.getD_eq_getElem?_getD, List.getElem?_eq_getElem hj]
        have hmem : (srt (nsK ws ws.length))[j] ∈ nsK ws ws.length := by
          have := List.getElem_mem hj
          unfold srt at this
          rw [List.mem_mergeSort] at this
          exact this
        have hs := lastK_isSome ws (srt (nsK ws ws.length))[j] ws.length
        rw [decide_eq_true hmem] at hs
        obtain ⟨s, es⟩ := Option.isSome_iff_exists.1 hs
        obtain ⟨q, hq⟩ := nsK_mem ws _ _ hmem
        refine ⟨s, by rw [e]; exact es, by rw [e, hq]; exact HWF.out q, ?_⟩
        rw [List.take_add_one]
        congr 1
        unfold bothL
        rw [List.getElem?_map, List.getElem?_eq_getElem hj, e]
        simp [es]⟩
      have BL : Aside0 ((bothL ws).length = (srt (nsK ws ws.length)).length) := ⟨by unfold bothL; rw [List.length_map]⟩
      have SL := srt_len (nsK ws ws.length)
      generalize nsK ws ws.length = ns at SC NL RNlt LM BL SL RN
      have SL := Aside0.mk SL
      go_wp2_with fail
      refine SC.out.mono ?_
      rintro e w6 ⟨rfl, hR6, hg6⟩
      have MM6 := Aside0.mk (MM.out.kept hg6 (fun e => by have := RNlt _ e.symm; have := HH.out; omega))
      have BW6 := Aside0.mk (BW.out.grown hg6 BW.out.size (fun k hk => by have := RNlt _ hk; have := HH.out; omega))
      have RN6 : Aside0 (Kd.R (Kd.int .i64) 3 w6 H1 (fun k => k < w6.heap.size) (.slice N' ns.length n') (srt ns)) := ⟨Kd.R_mono (Kd.R_bound hR6) (fun k hk => hk.2.2.1)⟩
      have HH6 : Aside0 (w6.heap.size ≤ w6.heap.size ∧ w.heap.size < w6.heap.size) := ⟨by have := hg6.size; have := HH.out; omega⟩
      clear hR6 hg6 SC RNlt RN MM BW HH
      obtain ⟨H6, hH6⟩ : ∃ H6, H6 = w6.heap.size := ⟨_, rfl⟩
      rw [← hH6] at RN6
      have HH6 : Aside0 (H6 ≤ w6.heap.size ∧ w.heap.size < H6) := ⟨by rw [hH6]; exact HH6.out⟩
      clear hH6
      go_wp2_with fail
      go_loopg [11, 48] ns.length (fun gk v11 v48 wl => ∃ (i : Nat) (vn : Value), vn = v11 ∧ v48 = .int .i64 i ∧ Aside0 (i + gk = ns.length) ∧ Aside0 (Kd.R (Kd.int .i64) 3 wl H1 (fun k => k < H6) (.slice N' ns.length n') (srt ns)) ∧ Aside0 (Kd.R k36 36 wl H6 (fun _ => True) vn ((bothL ws).take i)) ∧ Aside0 (MapIs wl w.heap.size ws.length (lastK ws ws.length)) ∧ Aside0 (Below w.heap.size w wl) ∧ Aside0 (H6 ≤ wl.heap.size ∧ w.heap.size < H6))
      case atStart => exact ⟨0, _, rfl, rfl, ⟨by omega⟩, RN6, ⟨Kd.R_nil _ _ _ _ _⟩, MM6, BW6, HH6⟩
      case round =>
        clear RN6 MM6 BW6 HH6
        obtain ⟨i, vn, hvn, rfl, hi, RN, RO, MM, BW, HH⟩ := hrel
        subst hvn
        by_cases hlt : i < ns.length
        · have lt1 := eq_true (show (i : Int) < (ns.length : Int) by omega)
          have lt0 := eq_true (show (0 : Int) ≤ (i : Int) by omega)
          have ww : IntKind.i64.wrap ((i : Int) + 1) = (i : Int) + 1 := IntWalk.i64_in _ (by have := HLEN.out; have := NL.out; omega)
          obtain ⟨ad, eA, y1⟩ := Kd.at_int (Kd.R_reads' RN.out).2.2 (i : Int) (by omega) (by rw [SL.out]; omega)
          cases eA
          rw [Int.toNat_natCast, show rd (srt ns) (i : Int) = (srt ns).getD i 0 from by simp [rd]] at y1
          obtain ⟨s, hs, wf, et⟩ := LM.out i (by rw [SL.out]; exact hlt)
          generalize (srt ns).getD i 0 = n at y1 hs wf et
          have hlk := MM.out.look wf hs
          have ET := Aside0.mk et
          have ROlt := Aside0.mk (show ∀ k, vn.ownBlock = some k → H6 ≤ k from fun k hk => ((Kd.R_bound RO.out).1 k hk).2.1)
          clear et hs
          go_wp2_with ((with_reducible refine gate_builtin (b := .append) (xs := #[.tmp 52, .tmp 58]) rfl ?_); at_builtin; refine Kd.R_append k36 (w0 := wr) H6 rfl (.tmp 52) (.tmp 58) 30 36 (.agg #[(.int .i64 0), (.string ⟨#[]⟩)]) 24 rfl Try.underlying30 info36 rfl (by decide) (by omega) _ ((bothL ws).take i) (⟨n, s⟩ : S36) [.int .i64 n, .string s] (fun _ => True) (fun _ => False) rfl rfl ?aP (fun _ hk => hk.elim) ?aF ?aO ?aB ?aS ?aL ?_; (case aP => exact k36_mkM _ _ _ (⟨n, s⟩ : S36)); (case aB => exact Below.refl _ _); (case aF => exact fun _ _ => trivial); (case aO => exact RO.out); (case aS => exact HH.out.1); (case aL => have := HLEN.out; have := NL.out; rw [List.length_take]; omega); intro v1 w8 ho hb hg hat; rw [← ET.out] at ho; have RO8 := Aside0.mk ho; have RN8 := Aside0.mk (R_grown RN.out hg (fun k hk _ _ e => by have := ROlt.out _ e.symm; omega)); have MM8 := Aside0.mk (MM.out.kept hg (fun e => by have := ROlt.out _ e.symm; have := HH.out; omega)); have BW8 := Aside0.mk (BW.out.grown hg BW.out.size (fun k hk => by have := ROlt.out _ hk; have := HH.out; omega)); have HH8 : Aside0 (H6 ≤ w8.heap.size ∧ w.heap.size < H6) := ⟨by have := hg.size; have := HH.out; omega⟩; clear ho hb hg hat)
          go_roundg (ns.length - i - 1)
          case measure => have := hi.out; omega
          case rel => exact ⟨i + 1, _, rfl, by push_cast; rfl, ⟨by have := hi.out; omega⟩, RN8, RO8, MM8, BW8, HH8⟩
        · obtain rfl : i = ns.length := by have := hi.out; omega
          have lf2 := eq_false (show ¬ (ns.length : Int) < (ns.length : Int) by omega)
          have hRO := RO.out
          rw [List.take_of_length_le (by rw [BL.out, SL.out]; exact Nat.le_refl _)] at hRO
          go_wp2_with fail
          go_ret
          exact ⟨_, rfl, Kd.R_lower hRO (by have := HH.out; omega), BW.out⟩
end Go.Proofs.Ytoljjgabgdifbaa.H


namespace Go.Proofs.Ytoljjgabgdifbaa.H
open Go.ChangeShapes Go.WideShapes Go.ChangeAt Go.RowKit Go.Joins
open Go.RowKit Go.Proofs.YtoljjgabgdifbaaW.PrintWords Go.Proofs.YtoljjgabgdifbaaW.PrintLast
set_option linter.unusedVariables false
set_option linter.unusedSimpArgs false

theorem laidOut : laidOutB Try.prog = true := by kernel_rfl
theorem cells24 : Try.prog.cellsOf 24 = 3 := by kernel_rfl
theorem cells9 : Try.prog.cellsOf 9 = 1 := by kernel_rfl
/-- What texts weigh: each letter one, each text one. -/
def tot : List ByteArray → Nat
  | [] => 0
  | s :: l => s.size + 1 + tot l
theorem tot_len : ∀ l : List ByteArray, l.length ≤ tot l
  | [] => Nat.le_refl _
  | s :: l => by
    have := tot_len l
    simp only [tot, List.length_cons]
    omega
theorem bulk_strs {H : Type} : ∀ l : List ByteArray, Rows.uptoBulkAll (strs (H := H) l) = tot l
  | [] => by simp [strs, Rows.uptoBulkAll, tot]
  | s :: l => by
    have := bulk_strs (H := H) l
    simp only [strs, List.map_cons, Rows.uptoBulkAll, Rows.uptoBulk, tot, Array.length_toList] at this ⊢
    rw [this]
    have : s.data.size = s.size := rfl
    omega
section
variable {H : Type} {enc : TypeId × Value → H} {W : World}
theorem open_texts {fuel : Nat} {v : Value} {y : DataW H × List MemPlace} (h : DataW.trod enc Try.prog W 0 (fun _ => true) true fuel 22 [v] = some y) :
    ∃ (A : Option Addr) (c : Nat) (l : List ByteArray), v = .slice A l.length c ∧ Kd.C Kd.string W A l.length l ∧ l.length ≤ c ∧ tot l ≤ Rows.uptoBulk y.1 := by
  rcases open_strings Try.underlying22 Try.underlying9 cells9 h with ⟨e, hx⟩ | ⟨a, len, cap, ss, e, _, hl, hm, hz, hx, hcell, hsz⟩
  · simp only [List.cons.injEq, and_true] at e
    subst hx
    exact ⟨none, 0, [], e, Kd.C_nil _ _, Nat.le_refl _, by simp [tot]⟩
  · simp only [List.cons.injEq, and_true] at e
    rw [if_pos rfl] at hz
    have ht : (ss.take len).length = len := by rw [List.length_take]; omega
    have hmm : maxLen ≤ 9223372036854775807 := by decide
    refine ⟨some a, cap, ss.take len, by rw [ht]; exact e, ?_, by omega, ?_⟩
    · refine Kd.C_of_reads (d := ByteArray.empty) ⟨rfl, by omega, fun _ => ⟨a, rfl, fun j hj => ?_⟩⟩
      rw [hcell j (by omega)]
      rw [List.getD_eq_getElem?_getD, List.getD_eq_getElem?_getD, List.getElem?_take_of_lt (by omega)]
    · rw [hx]
      simp only [Rows.uptoBulk]
      rw [bulk_strs]
      omega
set_option maxRecDepth 100000 in
/-- An image that came in. -/
theorem open_image {r : Reach} {b0 : Nat} {v : Value} {d : DataW H} {p : List MemPlace} (hv : Value.okWide Try.prog W r b0 24 v) (h : DataW.Trod enc Try.prog W 0 (fun _ => true) true 24 v d p) :
    ∃ (A0 : Option Addr) (c0 : Nat) (A1 : Option Addr) (c1 : Nat) (x : S24), v = .agg #[.slice A0 x.f0.length c0, .slice A1 x.f1.length c1, .string x.f2] ∧
      Kd.C Kd.string W A0 x.f0.length x.f0 ∧ x.f0.length ≤ c0 ∧ Kd.C Kd.string W A1 x.f1.length x.f1 ∧ x.f1.length ≤ c1 ∧ tot x.f0 + tot x.f1 + x.f2.size ≤ Rows.uptoBulk d := by
  obtain ⟨v0, v1, v2, y0, y1, y2, n, rfl, rfl, rfl, h0, h1, h2⟩ := open_agg3 Try.underlying24 (by kernel_rfl) cells24 hv h
  obtain ⟨A0, c0, l0, rfl, k0, m0, b0⟩ := open_texts h0
  obtain ⟨A1, c1, l1, rfl, k1, m1, b1⟩ := open_texts h1
  obtain ⟨s, e, hs, _⟩ := DataW.trod_string Try.underlying9 h2
  simp only [List.cons.injEq, and_true] at e
  subst e
  refine ⟨A0, c0, A1, c1, ⟨l0, l1, s⟩, rfl, k0, m0, k1, m1, ?_⟩
  subst hs
  simp only [Rows.uptoBulk, Rows.uptoBulkAll, Array.length_toList]
  have : s.data.size = s.size := rfl
  omega
theorem trod_below {t : TypeId} {v : Value} {d : DataW H} {p : List MemPlace} (h : DataW.Trod enc Try.prog W 0 (fun _ => true) true t v d p) : ∀ x ∈ p, x.block < W.heap.size := by
  obtain ⟨m, hm⟩ := h
  exact DataW.trod_lt m _ _ _ hm
end
theorem lenB_le : ∀ (k n : Nat), n < k → (lenB n).length ≤ n + 1
  | k + 1, n, h => by
    rw [lenB]
    split
    · have := lenB_le k (n / 128) (by omega)
      rw [List.length_cons]
      omega
    · simp
theorem rowB_le : ∀ l : List ByteArray, (rowB l).length ≤ 2 * tot l
  | [] => Nat.le_refl _
  | s :: l => by
    have := rowB_le l
    have h1 := lenB_le (s.size + 1) s.size (by omega)
    simp only [rowB, List.length_append, Array.length_toList, tot]
    have : s.data.size = s.size := rfl
    omega
theorem imageL_le (f0 f1 : List ByteArray) (s : ByteArray) : (imageL f0 f1 s).length ≤ 4 * tot f0 + 4 * tot f1 + 2 * s.size + 16 := by
  have h := rowB_le [hibi, ⟨(rowB f0).toArray⟩, ⟨(rowB f1).toArray⟩, s]
  have h0 := rowB_le f0
  have h1 := rowB_le f1
  have ea : (ByteArray.mk (rowB f0).toArray).size = (rowB f0).length := by show (rowB f0).toArray.size = _; simp
  have eb : (ByteArray.mk (rowB f1).toArray).size = (rowB f1).length := by show (rowB f1).toArray.size = _; simp
  have e2 : hibi.size = 4 := rfl
  simp only [tot, ea, eb, e2] at h
  show (rowB [hibi, ⟨(rowB f0).toArray⟩, ⟨(rowB f1).toArray⟩, s]).length ≤ _
  omega
end Go.Proofs.Ytoljjgabgdifbaa.H


namespace Go.Proofs.Ytoljjgabgdifbaa.H
open Go.RowKit Go.Proofs.YtoljjgabgdifbaaW.PrintWords Go.Proofs.YtoljjgabgdifbaaW.PrintLast Go.Proofs.YtoljjgabgdifbaaW.PrintMore
set_option linter.unusedVariables false
set_option linter.unusedSimpArgs false

/-! ### the numbers of the writes -/
theorem nsK_nodup (ws : List S36) : ∀ i, (nsK ws i).Nodup
  | 0 => List.nodup_nil
  | i + 1 => by
    have ih := nsK_nodup ws i
    rw [nsK]
    split
    · exact ih
    · rename_i h
      rw [List.nodup_append]
      refine ⟨ih, by simp, ?_⟩
      intro a ha b hb e
      rw [List.mem_singleton] at hb
      subst hb
      subst e
      exact h ha
theorem rd_mem {l : List S36} {j : Nat} (h : j < l.length) : rd_T36 l (j : Int) ∈ l := by
  have : rd_T36 l (j : Int) = l[j] := by simp [rd_T36, List.getD_eq_getElem?_getD, List.getElem?_eq_getElem h]
  rw [this]
  exact List.getElem_mem h
theorem srt_mem (l : List Int) (a : Int) : a ∈ srt l ↔ a ∈ l := by
  unfold srt
  exact List.mem_mergeSort
theorem srt_sorted (l : List Int) : (srt l).Pairwise (· ≤ ·) := by
  have := List.pairwise_mergeSort (le := fun x y : Int => decide (x ≤ y)) (fun a b c h1 h2 => by simp at *; omega) (fun a b => by simp; omega) l
  exact this.imp (fun h => by simpa using h)
theorem srt_nodup {l : List Int} (h : l.Nodup) : (srt l).Nodup := (List.mergeSort_perm l _).nodup_iff.2 h
/-! ### how great images are -/
def wt : List ByteArray → Nat
  | [] => 0
  | s :: l => 4 + s.size + wt l
theorem wt_tot : ∀ l : List ByteArray, wt l ≤ 4 * tot l
  | [] => Nat.le_refl _
  | s :: l => by
    have := wt_tot l
    simp only [wt, tot]
    omega
theorem wrap_nat {n : Nat} (h : n < 9223372036854775808) : wrap64 (n : Int) = (n : Int) := by
  rw [← i64_w, IntWalk.i64_in _ (by omega)]
theorem size_l0 (l : List ByteArray) (hl : l.length ≤ 5864062014805) : ∀ (k i n : Nat) (r : Int), i ≤ l.length → n + wt (l.drop i) < 4611686018427387904 → hibernaclelaw35_size.l0 k (n : Int) l (l.length : Int) (i : Int) = some r → r = ((n + wt (l.drop i) : Nat) : Int)
  | 0, i, n, r, hi, hn, h => by simp [hibernaclelaw35_size.l0] at h
  | k + 1, i, n, r, hi, hn, h => by
    by_cases c : i < l.length
    · have ed := List.drop_eq_getElem_cons c
      rw [ed] at hn ⊢
      simp only [wt] at hn ⊢
      rw [hibernaclelaw35_size.l0, if_pos (by omega), if_pos (by omega), if_pos (by omega), wrap_succ c hl, rdOf_nat, at_eq _ c] at h
      rw [show (4 : Int) + ((l[i]).size : Int) = ((4 + (l[i]).size : Nat) : Int) by omega, wrap_nat (by omega), show (n : Int) + ((4 + (l[i]).size : Nat) : Int) = ((n + (4 + (l[i]).size) : Nat) : Int) by omega, wrap_nat (by omega)] at h
      have := size_l0 l hl k (i + 1) _ r (by omega) (by omega) h
      rw [this]
      omega
    · obtain rfl : i = l.length := by omega
      rw [hibernaclelaw35_size.l0, if_neg (by omega)] at h
      rw [List.drop_length]
      simp only [wt]
      rw [← Option.some.inj h]
      omega
theorem size_f {l : List ByteArray} {k : Nat} {r : Int} (hl : l.length ≤ 5864062014805) (hn : wt l < 4611686018427387904) (h : hibernaclelaw35_size.f k l = some r) : r = ((wt l : Nat) : Int) := by
  have := size_l0 l hl k 0 0 r (by omega) (by simpa using hn) h
  simpa using this
def wtI (x : S24) : Nat := wt x.f0 + wt x.f1 + x.f2.size
def wtS : List S24 → Nat
  | [] => 0
  | x :: l => wtI x + wtS l
theorem great_l0 (l : List S24) (hl : l.length ≤ 5864062014805) (hm : ∀ x ∈ l, x.f0.length ≤ 5864062014805 ∧ x.f1.length ≤ 5864062014805) : ∀ (k i n : Nat) (r : Bool), i ≤ l.length → n + wtS (l.drop i) < 1152921504606846976 → hibernaclelaw35_great.l0 k (n : Int) l (l.length : Int) (i : Int) = some r → r = decide (n + wtS (l.drop i) > 4000)
  | 0, i, n, r, hi, hn, h => by simp [hibernaclelaw35_great.l0] at h
  | k + 1, i, n, r, hi, hn, h => by
    by_cases c : i < l.length
    · have ed := List.drop_eq_getElem_cons c
      have em : rd_T24 l (i : Int) = l[i] := by simp [rd_T24, List.getD_eq_getElem?_getD, List.getElem?_eq_getElem c]
      obtain ⟨m0, m1⟩ := hm l[i] (List.getElem_mem c)
      rw [ed] at hn ⊢
      simp only [wtS, wtI] at hn ⊢
      rw [hibernaclelaw35_great.l0, if_pos (by omega), if_pos (by omega), if_pos (by omega), wrap_succ c hl, em] at h
      obtain ⟨r0, e0, h⟩ := Option.bind_eq_some_iff.1 h
      obtain ⟨r1, e1, h⟩ := Option.bind_eq_some_iff.1 h
      rw [size_f m0 (by omega) e0, size_f m1 (by omega) e1] at h
      rw [show ((wt (l[i]).f0 : Nat) : Int) + ((wt (l[i]).f1 : Nat) : Int) = ((wt (l[i]).f0 + wt (l[i]).f1 : Nat) : Int) by omega, wrap_nat (by omega), show ((wt (l[i]).f0 + wt (l[i]).f1 : Nat) : Int) + ((l[i]).f2.size : Int) = ((wt (l[i]).f0 + wt (l[i]).f1 + (l[i]).f2.size : Nat) : Int) by omega, wrap_nat (by omega), show (n : Int) + ((wt (l[i]).f0 + wt (l[i]).f1 + (l[i]).f2.size : Nat) : Int) = ((n + (wt (l[i]).f0 + wt (l[i]).f1 + (l[i]).f2.size) : Nat) : Int) by omega, wrap_nat (by omega)] at h
      have := great_l0 l hl hm k (i + 1) _ r (by omega) (by omega) h
      rw [this]
      congr 1
      exact propext (by omega)
    · obtain rfl : i = l.length := by omega
      rw [hibernaclelaw35_great.l0, if_neg (by omega)] at h
      rw [List.drop_length]
      simp only [wtS]
      rw [← Option.some.inj h]
      congr 1
      exact propext (by omega)
theorem great_no {l : List S24} {k : Nat} (hl : l.length ≤ 5864062014805) (hm : ∀ x ∈ l, x.f0.length ≤ 5864062014805 ∧ x.f1.length ≤ 5864062014805) (hn : wtS l < 1152921504606846976) (h : hibernaclelaw35_great.f k l = some false) : wtS l ≤ 4000 := by
  have := great_l0 l hl hm k 0 0 false (by omega) (by simpa using hn) h
  simp at this
  omega
theorem wtI_tot (x : S24) : wtI x ≤ 4 * (tot x.f0 + tot x.f1 + x.f2.size) := by
  have := wt_tot x.f0
  have := wt_tot x.f1
  unfold wtI
  omega
end Go.Proofs.Ytoljjgabgdifbaa.H

