/- Parts of the proof: R3, R4, T1, G3, R5. Printed by the kit's print.py: functions of layer 35 and its answer. -/
import Derived.Test.YtoljjgabgdifbaaGreatDoorZbPH6toH9
import Derived.Test.YtoljjgabgdifbaaGreatDoorZbPR2
import Derived.Test.YtoljjgabgdifbaaGreatDoorZbPG2
import Derived.Test.YtoljjgabgdifbaaGreatDoorZbPH10toH11
import Derived.Test.YtoljjgabgdifbaaGreatDoorZbPH13toJ2toPJ3toR1
import Derived.Deep.MidRow
import Derived.Stop.BytesEq

namespace Go.Proofs.YtoljjgabgdifbaaGreatDoor.H
open Go.RowKit Go.Proofs.YtoljjgabgdifbaaGreatDoorW.PrintWords Go.Proofs.YtoljjgabgdifbaaGreatDoorW.PrintLast
set_option linter.unusedVariables false
set_option linter.unusedSimpArgs false

theorem pad_step (x : ByteArray) (h : x.size < 64) : pad (x ++ ⟨#[0]⟩) = pad x := by
  have e : 64 - x.size = (64 - (x ++ (⟨#[0]⟩ : ByteArray)).size) + 1 := by
    rw [ByteArray.size_append]
    show 64 - x.size = 64 - (x.size + 1) + 1
    omega
  unfold pad
  rw [e]
  apply ByteArray.ext
  simp only [ByteArray.data_append, Lib.repeatL, Array.append_assoc]
  congr 1
  apply Array.ext'
  simp
theorem pad_full (x : ByteArray) (h : x.size = 64) : pad x = x := by
  unfold pad
  rw [h]
  apply ByteArray.ext
  simp [Lib.repeatL]
theorem ext_first (s : ByteArray) (n : Nat) (h : n + 64 < s.size) : (s.extract n s.size).extract 0 64 = s.extract n (n + 64) := by
  apply ByteArray.ext
  simp [ByteArray.data_extract, Array.extract_extract]
  congr 1
  omega
theorem ext_rest (s : ByteArray) (n : Nat) (h : n + 64 < s.size) : (s.extract n s.size).extract 64 (s.extract n s.size).size = s.extract (n + 64) s.size := by
  apply ByteArray.ext
  simp [ByteArray.data_extract, Array.extract_extract, ByteArray.size_extract]
  congr 1
  omega
theorem digH_more (h : List Int) (s : ByteArray) (n : Nat) (hl : n + 64 < s.size) (hs : s.size ≤ 140737488355328) : digH h (s.extract n s.size) (n : Int) = digH (takeL h (s.extract n (n + 64)) ((n : Int) + 64) false) (s.extract (n + 64) s.size) ((n : Int) + 64) := by
  have e : IntKind.u64.wrap ((n : Int) + 64) = (n : Int) + 64 := by simp [IntKind.wrap, IntKind.bits, IntKind.signed]; omega
  rw [digH, if_pos (by rw [ByteArray.size_extract]; omega), ext_first s n hl, ext_rest s n hl, e]
theorem digH_last (h : List Int) (s : ByteArray) (n : Nat) (hn : n ≤ s.size) (hl : ¬ n + 64 < s.size) (hs : s.size ≤ 140737488355328) : digH h (s.extract n s.size) (n : Int) = takeL h (pad (s.extract n s.size)) (s.size : Int) true := by
  have z : (s.extract n s.size).size = s.size - n := by rw [ByteArray.size_extract]; omega
  have e : IntKind.u64.wrap ((n : Int) + ((s.size - n : Nat) : Int)) = (s.size : Int) := by simp [IntKind.wrap, IntKind.bits, IntKind.signed]; omega
  rw [digH, if_neg (by rw [z]; omega), z, e]
theorem bits_range (x y : Int) : 0 ≤ Go.bits .xor .u32 x y ∧ Go.bits .xor .u32 x y < 4294967296 := by
  show 0 ≤ IntKind.u32.wrap _ ∧ IntKind.u32.wrap _ < _
  rw [IntKind.wrap_u32]
  omega
theorem takeL_range (h : List Int) (s : ByteArray) (n : Int) (last : Bool) (i : Nat) : 0 ≤ (takeL h s n last).getD i 0 ∧ (takeL h s n last).getD i 0 < 4294967296 := by
  unfold takeL
  generalize rounds (pm s 16) (initV h n last) 10 = v
  by_cases c : i < 8
  · have e : (finL h v 8).getD i 0 = Go.bits .xor .u32 (h.getD i 0) (Go.bits .xor .u32 (v.getD i 0) (v.getD (i + 8) 0)) := by
      simp [finL, List.getD_eq_getElem?_getD, c]
    rw [e]
    exact bits_range _ _
  · rw [List.getD_eq_getElem?_getD, List.getElem?_eq_none (by rw [finL_len]; omega)]
    decide
/-- What stands while the digest's bytes are written; the eight numbers still lie there. -/
structure D3 (w0 w : World) (go : Nat) (R : List Int) (k : Nat) : Prop where
  two : D2 w0 w go R k
  b0 : Blk w w0.heap.size 89 (nums .u32 R).toArray
theorem D1.start3 {w0 w : World} {R : List Int} (X : D1 w0 w R) : D3 w0 (w.alloc (.cells (nums .u8 (outL R 0)).toArray 28)) w.heap.size R 0 := ⟨X.start, X.b0.alloc _⟩
theorem D3.step {w0 w : World} {go : Nat} {R : List Int} {k : Nat} (X : D3 w0 w go R k) (hk : k < 32) : D3 w0 (w.setCell ⟨go, k, none⟩ (.int .u8 (outAt R k))) go R (k + 1) :=
  ⟨X.two.step hk, X.b0.far (by have := X.two.lt; simp; omega) _⟩

set_option maxRecDepth 100000 in
set_option maxHeartbeats 20000000 in
theorem rdigest_calls (h0 : List Int) (s : ByteArray) (w : World) (hh : h0.length = 8) (hs : s.size ≤ 140737488355328) :
    Calls Tryz.prog 51 #[.agg (nums .u32 h0).toArray, .string s] w fun e w' => e = .returned (.agg (nums .u8 (outL (digH h0 s 0) 32)).toArray) ∧ Below w.heap.size w w' := by
  have X0 : D1 w ((w.alloc (.cells (nums .u32 h0).toArray 89)).alloc (.cells (nums .u8 (outL [] 0)).toArray 28)) h0 :=
    ⟨((Below.refl w.heap.size w).alloc (Nat.le_refl _) _).alloc (by rw [sz]; omega) _, (Blk.new w 89 _).alloc _, by have z := Blk.new (w.alloc (.cells (nums .u32 h0).toArray 89)) 28 (nums .u8 (outL [] 0)).toArray; rw [sz] at z; exact z⟩
  generalize hw0 : ((w.alloc (.cells (nums .u32 h0).toArray 89)).alloc (.cells (nums .u8 (outL [] 0)).toArray 28)) = w0 at X0
  have HW0 := Aside0.mk hw0
  have X0 := Aside0.mk X0
  clear hw0
  obtain ⟨R, hR⟩ : ∃ R, R = digH h0 s 0 := ⟨_, rfl⟩
  rw [← hR]
  have HH0 := Aside0.mk hh
  have HR0 : Aside0 (R = digH h0 (s.extract 0 s.size) ((0 : Nat) : Int)) := ⟨by rw [hR]; congr 1; apply ByteArray.ext; simp [ByteArray.data_extract]⟩
  have HS := Aside0.mk hs
  clear hh hR hs
  go_enter Tryz.func51, Tryz.ntmps51
  go_wp2
  rw [show ((w.alloc (.cells (nums .u32 h0).toArray 89)).alloc (.cells #[.int .u8 0, .int .u8 0, .int .u8 0, .int .u8 0, .int .u8 0, .int .u8 0, .int .u8 0, .int .u8 0, .int .u8 0, .int .u8 0, .int .u8 0, .int .u8 0, .int .u8 0, .int .u8 0, .int .u8 0, .int .u8 0, .int .u8 0, .int .u8 0, .int .u8 0, .int .u8 0, .int .u8 0, .int .u8 0, .int .u8 0, .int .u8 0, .int .u8 0, .int .u8 0, .int .u8 0, .int .u8 0, .int .u8 0, .int .u8 0, .int .u8 0, .int .u8 0] 28)) = w0 from HW0.out]
  go_loopg [5] (s.size + 1) (fun gk v5 wl => ∃ (h : List Int) (n : Nat), v5 = .int .i64 n ∧ Aside0 (gk = s.size + 1 - n) ∧ Aside0 (n ≤ s.size) ∧ Aside0 (h.length = 8) ∧ Aside0 (R = digH h (s.extract n s.size) (n : Int)) ∧ Aside0 (D1 w wl h))
  case atStart => exact ⟨h0, 0, rfl, ⟨rfl⟩, ⟨Nat.zero_le _⟩, HH0, HR0, X0⟩
  case round =>
    clear X0 HW0 HH0 HR0
    obtain ⟨h, n, rfl, hk, hn, HH, HR, X⟩ := hrel
    have hs := HS.out
    have hn' := hn.out
    have en : IntKind.i64.wrap ((n : Int) + 64) = (n : Int) + 64 := IntWalk.i64_in _ (by omega)
    by_cases hlt : n + 64 < s.size
    · have hb1 := eq_false (show ¬ (s.size : Int) ≤ (n : Int) + 64 by omega)
      have hb2 := eq_true (show (n : Int) + 64 ≤ (s.size : Int) by omega)
      have hb3 := eq_true (show (0 : Int) ≤ (n : Int) by omega)
      have hb4 := eq_true (show (n : Int) ≤ (n : Int) + 64 by omega)
      have hb5 : ((n : Int) + 64).toNat = n + 64 := by omega
      have eu : IntKind.u64.wrap ((n : Int) + 64) = (n : Int) + 64 := by simp [IntKind.wrap, IntKind.bits, IntKind.signed]; omega
      have HE : (s.extract n (n + 64)).size = 64 := by rw [ByteArray.size_extract]; omega
      have TC := Aside0.mk (fun W => rtake_calls h (s.extract n (n + 64)) ((n : Int) + 64) false W HH.out HE (by omega) (by omega))
      clear HE
      go_wp2_with (first | (refine wpList_load_row rfl 89 (.tmp 2) rfl w.heap.size rfl 89 _ (0, 0) _ X.out.b0 Tryz.underlying89 rfl (by rw [List.size_toArray, nums_length, HH.out]; kernel_rfl) ?_) | ((with_reducible refine (TC.out _).mono ?_); rintro e w3 ⟨rfl, hb⟩; have XB := Aside0.mk (X.out.far2 hb); clear hb) | (refine wpList_store_row rfl 89 (.tmp 2) (.tmp 39) rfl w.heap.size _ rfl rfl 89 _ XB.out.b0 (by rw [List.size_toArray, nums_length, takeL_len]; kernel_rfl) (by rw [List.size_toArray, nums_length, HH.out, List.size_toArray, nums_length, takeL_len]) (nums_all _) ?_))
      have XS := Aside0.mk (XB.out.set_ (h' := takeL h (s.extract n (n + 64)) ((n : Int) + 64) false))
      go_roundg (s.size + 1 - (n + 64))
      case measure => have := hk.out; omega
      case rel =>
        have e := HR.out
        rw [digH_more h s n hlt hs] at e
        exact ⟨takeL h (s.extract n (n + 64)) ((n : Int) + 64) false, n + 64, by push_cast; rfl, ⟨rfl⟩, ⟨by omega⟩, ⟨takeL_len _ _ _ _⟩, ⟨by push_cast; exact e⟩, XS⟩
    · have hb1 := eq_true (show (s.size : Int) ≤ (n : Int) + 64 by omega)
      have hb2 := eq_true (show (n : Int) ≤ (s.size : Int) by omega)
      have hb3 := eq_true (show (0 : Int) ≤ (n : Int) by omega)
      have eu : IntKind.u64.wrap (s.size : Int) = (s.size : Int) := by simp [IntKind.wrap, IntKind.bits, IntKind.signed]; omega
      have HX : Aside0 ((s.extract n s.size).size ≤ 64) := ⟨by rw [ByteArray.size_extract]; omega⟩
      have HT : Aside0 (R = takeL h (pad (s.extract n s.size)) (s.size : Int) true) := ⟨by rw [HR.out]; exact digH_last h s n hn' hlt hs⟩
      clear HR hk
      go_wp2_with fail
      generalize s.extract n s.size = b at HX HT ⊢
      go_loopg [8] (64 - b.size) (fun gk v8 wl => ∃ x : ByteArray, v8 = .string x ∧ Aside0 (gk = 64 - x.size) ∧ Aside0 (x.size ≤ 64) ∧ Aside0 (pad x = pad b) ∧ Aside0 (D1 w wl h))
      case atStart => exact ⟨b, rfl, ⟨rfl⟩, HX, ⟨rfl⟩, X⟩
      case round =>
        clear X HX
        obtain ⟨x, rfl, hk, hx, HP, X⟩ := hrel
        have hx' := hx.out
        by_cases x64 : x.size < 64
        · have c1 := eq_true (show (x.size : Int) < 64 by omega)
          have c2 := eq_false (show ¬ 9223372036854775807 < x.size + 1 by omega)
          have c3 := eq_true (show x.size + 1 ≤ 9223372036854775807 by omega)
          have e1 : (x ++ (⟨#[0]⟩ : ByteArray)).size = x.size + 1 := by rw [ByteArray.size_append]; rfl
          go_wp2_with fail
          go_roundg (64 - (x.size + 1))
          case measure => have := hk.out; omega
          case rel => exact ⟨x ++ ⟨#[0]⟩, rfl, ⟨by rw [e1]⟩, ⟨by omega⟩, ⟨by rw [pad_step x x64]; exact HP.out⟩, X⟩
        · have c1 := eq_false (show ¬ (x.size : Int) < 64 by omega)
          have c2 : x.size = 64 := by omega
          have c3 := HP.out
          rw [pad_full x c2] at c3
          rw [← c3] at HT
          have TC := Aside0.mk (fun W => rtake_calls h x (s.size : Int) true W HH.out c2 (by omega) (by omega))
          rw [← HT.out] at TC
          have LR : Aside0 (R.length = 8) := ⟨by rw [HT.out]; exact takeL_len _ _ _ _⟩
          have RR : Aside0 (∀ i, 0 ≤ R.getD i 0 ∧ R.getD i 0 < 4294967296) := ⟨fun i => by rw [HT.out]; exact takeL_range _ _ _ _ i⟩
          clear c2 c3 HP HT hk hx hx' x64
          go_wp2_with (first | (refine wpList_load_row rfl 89 (.tmp 2) rfl w.heap.size rfl 89 _ (0, 0) _ X.out.b0 Tryz.underlying89 rfl (by rw [List.size_toArray, nums_length, HH.out]; kernel_rfl) ?_) | ((with_reducible refine (TC.out _).mono ?_); rintro e w3 ⟨rfl, hb⟩; have XB := Aside0.mk (X.out.far2 hb); clear hb) | (refine wpList_store_row rfl 89 (.tmp 2) (.tmp 39) rfl w.heap.size _ rfl rfl 89 _ XB.out.b0 (by rw [List.size_toArray, nums_length, LR.out]; kernel_rfl) (by rw [List.size_toArray, nums_length, HH.out, List.size_toArray, nums_length, LR.out]) (nums_all _) ?_; have XS := XB.out.set_ (h' := R); generalize w3.setRow w.heap.size (nums .u32 R).toArray = wz at XS ⊢; have XS := Aside0.mk XS; clear XB X TC))
          have Y : Aside0 (D3 w (wz.alloc (.cells (nums .u8 (outL R 0)).toArray 28)) wz.heap.size R 0) := ⟨XS.out.start3⟩
          rw [show wz.alloc (.cells #[.int .u8 0, .int .u8 0, .int .u8 0, .int .u8 0, .int .u8 0, .int .u8 0, .int .u8 0, .int .u8 0, .int .u8 0, .int .u8 0, .int .u8 0, .int .u8 0, .int .u8 0, .int .u8 0, .int .u8 0, .int .u8 0, .int .u8 0, .int .u8 0, .int .u8 0, .int .u8 0, .int .u8 0, .int .u8 0, .int .u8 0, .int .u8 0, .int .u8 0, .int .u8 0, .int .u8 0, .int .u8 0, .int .u8 0, .int .u8 0, .int .u8 0, .int .u8 0] 28) = wz.alloc (.cells (nums .u8 (outL R 0)).toArray 28) from rfl]
          generalize wz.alloc (.cells (nums .u8 (outL R 0)).toArray 28) = wy at Y ⊢
          generalize wz.heap.size = go at Y ⊢
          clear XS
          go_loopg [10] 32 (fun gk v10 wk => ∃ i : Nat, v10 = .int .i64 i ∧ Aside0 (i + gk = 32) ∧ Aside0 (D3 w wk go R i))
          case atStart => exact ⟨0, rfl, ⟨rfl⟩, Y⟩
          case round =>
            clear Y
            obtain ⟨i, rfl, hk, Y⟩ := hrel
            by_cases i32 : i < 32
            · have b1 := eq_true (show (i : Int) < 32 by omega)
              have qh : wr.cell? ⟨w.heap.size, i / 4, none⟩ = some (.int .u32 (R.getD (i / 4) 0)) := (Y.out.b0.cell (i / 4)).trans (nums_get (by rw [LR.out]; omega))
              have d1 : IntKind.i64.wrap ((i : Int).tdiv 4) = ((i / 4 : Nat) : Int) := by
                rw [Int.tdiv_eq_ediv_of_nonneg (by omega), IntWalk.i64_in _ (by omega)]
                omega
              have d2 : IntKind.i64.wrap ((i : Int).tmod 4) = ((i % 4 : Nat) : Int) := by
                rw [Int.tmod_eq_emod_of_nonneg (by omega), IntWalk.i64_in _ (by omega)]
                omega
              have d3 : (i : Int).tmod 4 = ((i % 4 : Nat) : Int) := by
                rw [Int.tmod_eq_emod_of_nonneg (by omega)]
                omega
              have d4 := eq_true (show ((i / 4 : Nat) : Int) < 8 by omega)
              have RX := RR.out (i / 4)
              have HO : Aside0 (outAt R i = R.getD (i / 4) 0 / 2 ^ (8 * (i % 4)) % 256) := ⟨rfl⟩
              generalize R.getD (i / 4) 0 = x at qh RX HO
              have HM := Aside0.mk (show i % 4 < 4 by omega)
              have RX := Aside0.mk RX
              have d5 := eq_true (show (i : Int) / 4 < 8 by omega)
              have d6 := eq_true (show (0 : Int) ≤ (i : Int) / 4 by omega)
              go_wp2_with fail
              go_loopg [11, 12] (i % 4) (fun gj v11 v12 wi => ∃ (j : Nat) (y : Int), v11 = .int .u32 y ∧ v12 = .int .i64 j ∧ Aside0 (j + gj = i % 4) ∧ Aside0 (y = x / 2 ^ (8 * j) ∧ 0 ≤ y ∧ y < 4294967296) ∧ Aside0 (D3 w wi go R i))
              case atStart => exact ⟨0, x, rfl, rfl, ⟨by omega⟩, ⟨by simpa using RX.out⟩, Y⟩
              case round =>
                clear Y
                obtain ⟨j, y, rfl, rfl, hj, HY, Y⟩ := hrel
                obtain ⟨ey, y0, y1⟩ := HY.out
                by_cases jm : j < i % 4
                · have g1 := eq_true (show (j : Int) < ((i % 4 : Nat) : Int) by omega)
                  have g2 := eq_true (show (j : Int) < (i : Int) % 4 by omega)
                  have g3 : IntKind.u32.wrap (y.tdiv 256) = y / 256 := by
                    rw [Int.tdiv_eq_ediv_of_nonneg y0, IntKind.wrap_u32]
                    omega
                  clear ey
                  go_wp2_with fail
                  go_roundg (i % 4 - j - 1)
                  case measure => have := hj.out; omega
                  case rel =>
                    refine ⟨j + 1, y / 256, rfl, by go_num, ⟨by have := hj.out; omega⟩, ⟨?_, by omega, by omega⟩, Y⟩
                    rw [HY.out.1, Int.ediv_ediv_of_nonneg (Int.pow_nonneg (by decide))]
                    rw [show 8 * (j + 1) = 8 * j + 8 by omega, Int.pow_add]
                    rfl
                · obtain rfl : j = i % 4 := by have := hj.out; omega
                  have g1 := eq_false (show ¬ (((i % 4 : Nat) : Int) < (i : Int) % 4) by omega)
                  have YS := Aside0.mk (Y.out.step i32)
                  have e1 : y % 256 = outAt R i := by rw [HO.out, ey]
                  have f1 := Y.out.two.b2.frozen i
                  have q1 : wr.cell? ⟨go, i, none⟩ = some (.int .u8 ((outL R i).getD i 0)) := (Y.out.two.b2.cell i).trans (nums_get8 (by rw [outL_len]; omega))
                  clear ey jm
                  go_wp2_with fail
                  go_roundg (31 - i)
                  case measure => have := hk.out; omega
                  case rel =>
                    exact ⟨i + 1, by go_num, ⟨by have := hk.out; omega⟩, YS⟩
            · obtain rfl : i = 32 := by have := hk.out; omega
              clear i32 hk
              have Z := Y.out.two
              clear Y
              have b2 := Aside0.mk Z.b2
              have b1 := Aside0.mk Z.b1
              go_wp2_with (first | (refine wpList_load_row rfl 28 (.tmp 9) rfl go rfl 28 _ (0, 0) _ b2.out Tryz.underlying28 rfl (by rw [List.size_toArray, nums_length, outL_len]; kernel_rfl) ?_) | (refine wpList_store_row rfl 28 (.tmp 4) (.tmp 63) rfl (w.heap.size + 1) _ rfl rfl 28 _ b1.out (by rw [List.size_toArray, nums_length, outL_len]; kernel_rfl) (by rw [List.size_toArray, nums_length, outL_len, List.size_toArray, nums_length, outL_len]) (nums_all8 _) ?_))
              exact bodyPost_ret (results_cell_row (p := 4) (ty := 28) rfl _ _ (w.heap.size + 1) 28 _ (0, 0) _ rfl (Z.b1.setRow_ _) Tryz.underlying28 rfl (by rw [List.size_toArray, nums_length, outL_len]; kernel_rfl)) rfl ⟨rfl, below_setRow' Z.below (by omega) _⟩

theorem joined_one (s : ByteArray) (hs : s.size ≤ 140737488355328) : hibernacleref02_joined.f 2 [s] = some s := by
  have e : (⟨#[]⟩ : ByteArray) ++ s = s := by apply ByteArray.ext; simp
  have z : rdOf ByteArray.empty [s] 0 = s := rfl
  have z0 : (⟨#[]⟩ : ByteArray).size = 0 := rfl
  unfold hibernacleref02_joined.f
  rw [hibernacleref02_joined.l0, if_pos (by simp), if_pos (by omega), z, z0, if_pos (by omega), hibernacleref02_joined.l0, e]
  rw [if_neg]
  rw [show wrap64 (0 + 1) = 1 from by decide +kernel]
  simp
set_option maxRecDepth 100000 in
set_option maxHeartbeats 20000000 in
theorem rsum_calls (bk o c : Nat) (s : ByteArray) (w : World) (hcell : w.cell? ⟨bk, o, none⟩ = some (.string s)) (hbk : bk < w.heap.size) (hs : s.size ≤ 140737488355328) (hc : 1 ≤ c) :
    Calls Tryz.prog 43 #[.slice (some ⟨bk, o, none⟩) 1 c] w fun e w' => e = .returned (.agg (nums .u8 (sumL s)).toArray) ∧ Below w.heap.size w w' := by
  have HC := Aside0.mk hcell
  have HS := Aside0.mk hs
  clear hcell
  have B1 := Blk.new w 28 (nums .u8 (outL [] 0)).toArray
  have W1 := (Below.refl w.heap.size w).alloc (Nat.le_refl _) (.cells (nums .u8 (outL [] 0)).toArray 28)
  generalize hw1 : (w.alloc (.cells (nums .u8 (outL [] 0)).toArray 28)) = w1 at B1 W1
  have HW1 := Aside0.mk hw1
  have B1 := Aside0.mk B1
  have W1 := Aside0.mk W1
  clear hw1
  go_enter Tryz.func43, Tryz.ntmps43
  go_wp2_with (rw [show (w.alloc (.cells #[.int .u8 0, .int .u8 0, .int .u8 0, .int .u8 0, .int .u8 0, .int .u8 0, .int .u8 0, .int .u8 0, .int .u8 0, .int .u8 0, .int .u8 0, .int .u8 0, .int .u8 0, .int .u8 0, .int .u8 0, .int .u8 0, .int .u8 0, .int .u8 0, .int .u8 0, .int .u8 0, .int .u8 0, .int .u8 0, .int .u8 0, .int .u8 0, .int .u8 0, .int .u8 0, .int .u8 0, .int .u8 0, .int .u8 0, .int .u8 0, .int .u8 0, .int .u8 0] 28)) = w1 from HW1.out]; (with_reducible refine (reight_calls _).mono ?_); rintro e w' ⟨rfl, hb⟩; have BE := Aside0.mk hb; clear hb)
  have B2 := Blk.new w' 89 (nums .u32 sumH).toArray
  have G2 := (B1.out.below BE.out B1.out.lt).alloc (.cells (nums .u32 sumH).toArray 89)
  have W2 := (below_then W1.out (by have := W1.out.size; omega) BE.out).alloc (by have := W1.out.size; have := BE.out.size; omega) (.cells (nums .u32 sumH).toArray 89)
  rw [show w'.alloc (.cells #[.int .u32 (Go.bits .xor .u32 1779033703 16842784), .int .u32 3144134277, .int .u32 1013904242, .int .u32 2773480762, .int .u32 1359893119, .int .u32 2600822924, .int .u32 528734635, .int .u32 1541459225] 89) = w'.alloc (.cells (nums .u32 sumH).toArray 89) from rfl]
  generalize w'.alloc (.cells (nums .u32 sumH).toArray 89) = w2 at B2 G2 W2 ⊢
  generalize w'.heap.size = g at B2 ⊢
  have B2 := Aside0.mk B2
  have B1 := Aside0.mk G2
  have W2 := Aside0.mk W2
  clear HW1 W1 BE G2
  have HJ : Aside0 (Calls Tryz.prog 52 #[.slice (some ⟨bk, o, none⟩) 1 c] w2.drew fun e w' => e = .returned (.string s) ∧ Below w2.drew.heap.size w2.drew w') := by
    have hr : Kd.C Kd.string w2.drew (some ⟨bk, o, none⟩) [s].length [s] := by
      refine Kd.C_of_reads (d := ByteArray.empty) ⟨rfl, by simp, fun _ => ⟨_, rfl, fun j hj => ?_⟩⟩
      obtain rfl : j = 0 := by simpa using hj
      exact (W2.out.cell (p := ⟨bk, o, none⟩) hbk).trans HC.out
    refine ⟨(hibernacleref02_joined.calls 2 (some ⟨bk, o, none⟩) c [s] s w2.drew hr hc (joined_one s hs)).mono fun e w' ⟨he, hd⟩ => ⟨he, hd.below⟩⟩
  refine start_ (n := 5) (S := fun w' => Blk w' g 89 (nums .u32 sumH).toArray) (ds := [4]) #[false, false, false, false, false] (by kernel_rfl) rfl rfl (B2.out.drew) (fun hHeld => ?_)
  refine pure_ (i := 1) (N := some 10) (v := ?_) (a' := ?_) #[false, true, false, false, false] rfl rfl (by kernel_rfl) (fun _ _ _ h => h) (Or.inl ⟨by rfl, ?_⟩) ?_ ?_
  rotate_left
  · intro w'
    go_simp
    with_reducible rfl
  rotate_left
  · simp only [Act.put, List.setIfInBounds_toArray, List.set_cons_zero, List.set_cons_succ, i64_w, i32_w]
    rfl
  refine take_ (i := 0) (N := some 9) (v := ?_) (a' := ?_) #[true, true, false, false, false] rfl rfl (by kernel_rfl) (fun _ _ _ h => h) (Or.inl ⟨by rfl, ?_⟩) hHeld ?_ ?_
  rotate_left
  · intro w' s0
    refine row_loads 89 (.tmp 3) ?_ g ?_ s0 Tryz.underlying89 ?_ ?_
    · rfl
    · rfl
    · rfl
    · rfl
  rotate_left
  · simp only [Act.put, List.setIfInBounds_toArray, List.set_cons_zero, List.set_cons_succ, i64_w, i32_w]
    rfl
  refine one_ (i := 2) (N := some 11) #[true, true, true, false, false] rfl rfl (by kernel_rfl) (by decide) (fun K hK => ?_)
  refine goes_ Tryz.func52 (by kernel_rfl) rfl #[.slice (some ⟨bk, o, none⟩) 1 c] (by rfl) rfl rfl (by simp only [List.map_toArray, List.map_cons, List.map_nil]; rfl) ?_
  with_reducible refine (HJ.out).mono ?_
  rintro e w3 ⟨rfl, hb⟩
  refine ⟨_, rfl, ?_⟩
  have B3 := Aside0.mk (B2.out.drew.below hb B2.out.lt)
  have W3 := Aside0.mk (below_then (below_drew W2.out) (by have := W2.out.size; show w.heap.size ≤ w2.heap.size; omega) hb)
  have G3 := Aside0.mk (B1.out.drew.below hb B1.out.lt)
  clear hb
  refine hK.out _ _ (B3.out) (fun hHeld => ?_)
  clear hK K
  refine norm_ (a' := ?_) ?_ ?_
  rotate_left
  · show Act.put _ (some 11) _ = _
    simp only [Act.put, List.setIfInBounds_toArray, List.set_cons_zero, List.set_cons_succ, i64_w, i32_w]
    rfl
  refine one_ (i := 3) (N := some 12) #[true, true, true, true, false] rfl rfl (by kernel_rfl) (by decide) (fun K hK => ?_)
  refine goes_ Tryz.func51 (by kernel_rfl) rfl #[.agg (nums .u32 sumH).toArray, .string s] (by rfl) rfl rfl (by simp only [List.map_toArray, List.map_cons, List.map_nil]; rfl) ?_
  with_reducible refine (rdigest_calls sumH s w3 rfl HS.out).mono ?_
  rintro e w4 ⟨rfl, hb⟩
  refine ⟨_, rfl, ?_⟩
  have B4 := Aside0.mk (B3.out.below hb B3.out.lt)
  have W4 := Aside0.mk (below_then W3.out (by have := W3.out.size; omega) hb)
  have G4 := Aside0.mk (G3.out.below hb G3.out.lt)
  clear hb
  refine hK.out _ _ (B4.out) (fun hHeld => ?_)
  clear hK K
  refine norm_ (a' := ?_) ?_ ?_
  rotate_left
  · show Act.put _ (some 12) _ = _
    simp only [Act.put, List.setIfInBounds_toArray, List.set_cons_zero, List.set_cons_succ, i64_w, i32_w]
    rfl
  refine last_ (i := 4) (N := none) #[true, true, true, true, true] rfl rfl (by kernel_rfl) (by decide) (fun K hK => ?_)
  refine skip_ (w1 := w4.setRow w.heap.size (nums .u8 (sumL s)).toArray) (by rfl) rfl ?_ ?_
  · exact row_stores 28 _ _ rfl w.heap.size _ rfl rfl G4.out (by unfold sumL; rw [List.size_toArray, nums_length, outL_len]; kernel_rfl) (by unfold sumL; rw [List.size_toArray, nums_length, outL_len, List.size_toArray, nums_length, outL_len]) (nums_all8 _)
  refine hK.out _ _ ?_
  clear hK K
  refine done_ (by kernel_rfl) ?_

  clear hHeld
  go_wp2_with fail
  exact bodyPost_ret (results_cell_row (p := 2) (ty := 28) rfl _ _ w.heap.size 28 _ (0, 0) _ rfl (G4.out.setRow_ _) Tryz.underlying28 rfl (by unfold sumL; rw [List.size_toArray, nums_length, outL_len]; kernel_rfl)) rfl ⟨rfl, below_setRow' W4.out (Nat.le_refl _) _⟩
end Go.Proofs.YtoljjgabgdifbaaGreatDoor.H

namespace Go.Proofs.YtoljjgabgdifbaaGreatDoor.H
open Go.RowKit Go.Proofs.YtoljjgabgdifbaaGreatDoorW.PrintWords Go.Proofs.YtoljjgabgdifbaaGreatDoorW.PrintLast Go.Proofs.YtoljjgabgdifbaaGreatDoorW.PrintMore
set_option linter.unusedVariables false
set_option linter.unusedSimpArgs false

theorem nums_one_byte (b : UInt8) : strOfNums [(b.toNat : Int)] = ⟨#[b]⟩ := by
  simp [strOfNums]
theorem lenB_len : ∀ (k n : Nat), n < k → (lenB n).length ≤ n + 1
  | k + 1, n, h => by
    rw [lenB]
    split
    · have := lenB_len k (n / 128) (by omega)
      rw [List.length_cons]
      omega
    · simp
theorem wrap_succ' {i n : Nat} (h : i < n) (hn : n ≤ 5864062014805) : wrap64 ((i : Int) + 1) = ((i + 1 : Nat) : Int) := by
  rw [← i64_w, IntWalk.i64_in _ (by omega)]
  omega
theorem len_f : ∀ (k n : Nat), n < k → n ≤ 140737488355328 → hibernacleref01_length.f k (n : Int) = some ⟨(lenB n).toArray⟩ := by
  intro k
  induction k with
  | zero => intro n h; omega
  | succ k ih =>
    intro n h hn
    rw [hibernacleref01_length.f]
    by_cases c : 128 ≤ n
    · rw [if_neg (show ¬ (n : Int) < 128 by omega), Option.bind_some]
      have e1 : wrap64 (Int.tdiv (n : Int) 128) = ((n / 128 : Nat) : Int) := by
        rw [Int.tdiv_eq_ediv_of_nonneg (by omega)]
        rw [← i64_w, IntWalk.i64_in _ (by omega)]
        omega
      rw [e1, ih (n / 128) (by omega) (by omega), Option.bind_some]
      have e2 : (wrap64 (Int.tmod (n : Int) 128 + 128)) % 256 = ((UInt8.ofNat (n % 128 + 128)).toNat : Int) := by
        rw [Int.tmod_eq_emod_of_nonneg (by omega), ← i64_w, IntWalk.i64_in _ (by omega), UInt8.toNat_ofNat']
        omega
      rw [e2, nums_one_byte, lenB.eq_def n, if_pos c]
      have hl := lenB_len (n / 128 + 1) (n / 128) (by omega)
      have z1 : (ByteArray.mk #[UInt8.ofNat (n % 128 + 128)]).size = 1 := rfl
      have z2 : (ByteArray.mk (lenB (n / 128)).toArray).size = (lenB (n / 128)).length := by show (lenB (n / 128)).toArray.size = _; simp
      rw [z1, z2, if_pos (by omega)]
      rfl
    · rw [if_pos (show (n : Int) < 128 by omega), lenB, if_neg c]
      have e2 : (n : Int) % 256 = ((UInt8.ofNat n).toNat : Int) := by
        rw [UInt8.toNat_ofNat']
        omega
      rw [e2, nums_one_byte]
theorem row_l0 (l : List ByteArray) (hl : l.length ≤ 5864062014805) (hL : (rowB l).length ≤ 140737488355328) : ∀ (d i k : Nat), i + d = l.length → d + 140737488355328 < k → hibernacleref01_Row.l0 k ⟨(rowB (l.take i)).toArray⟩ l (l.length : Int) (i : Int) = some ⟨(rowB l).toArray⟩
  | 0, i, k, h, hk => by
    obtain ⟨k, rfl⟩ : ∃ m, k = m + 1 := ⟨k - 1, by omega⟩
    rw [hibernacleref01_Row.l0, if_neg (by omega), List.take_of_length_le (by omega)]
  | d + 1, i, k, h, hk => by
    obtain ⟨k, rfl⟩ : ∃ m, k = m + 1 := ⟨k - 1, by omega⟩
    have hi : i < l.length := by omega
    have er : rdOf ByteArray.empty l (i : Int) = l[i] := by simp [rdOf, List.getElem?_eq_getElem hi]
    have et : rowB (l.take (i + 1)) = rowB (l.take i) ++ (lenB l[i].size ++ l[i].data.toList) := by
      rw [List.take_add_one, List.getElem?_eq_getElem hi, rowB_append]
      simp [rowB]
    have ea : rowB l = rowB (l.take (i + 1)) ++ rowB (l.drop (i + 1)) := by rw [← rowB_append, List.take_append_drop]
    have hlen : (rowB (l.take i)).length + ((lenB l[i].size).length + l[i].size) ≤ 140737488355328 := by
      have := congrArg List.length ea
      rw [et] at this
      simp only [List.length_append, Array.length_toList] at this
      have e3 : l[i].data.size = l[i].size := rfl
      omega
    rw [hibernacleref01_Row.l0, if_pos (by omega), if_pos (by omega), if_pos (by omega), er, len_f k _ (by omega) (by omega), Option.bind_some]
    have z2 : ∀ x : List UInt8, (ByteArray.mk x.toArray).size = x.length := fun x => by show x.toArray.size = _; simp
    rw [z2, if_pos (by omega), ByteArray.size_append, z2, z2, if_pos (by omega), wrap_succ' (show i < l.length by omega) hl]
    have eb : (ByteArray.mk (rowB (l.take i)).toArray) ++ ((ByteArray.mk (lenB l[i].size).toArray) ++ l[i]) = ByteArray.mk (rowB (l.take (i + 1))).toArray := by
      apply ByteArray.ext
      rw [et]
      simp [ByteArray.data_append]
    rw [eb]
    exact row_l0 l hl hL d (i + 1) k (by omega) (by omega)
theorem row_f (l : List ByteArray) (hl : l.length ≤ 5864062014805) (hL : (rowB l).length ≤ 140737488355328) {k : Nat} (hk : l.length + 140737488355328 < k) : hibernacleref01_Row.f k l = some ⟨(rowB l).toArray⟩ := by
  unfold hibernacleref01_Row.f
  exact row_l0 l hl hL l.length 0 k (by omega) hk
end Go.Proofs.YtoljjgabgdifbaaGreatDoor.H

namespace Go.Proofs.YtoljjgabgdifbaaGreatDoor.H
open Go.RowKit Go.Proofs.YtoljjgabgdifbaaGreatDoorW.PrintWords Go.Proofs.YtoljjgabgdifbaaGreatDoorW.PrintLast Go.Proofs.YtoljjgabgdifbaaGreatDoorW.PrintMore
set_option linter.unusedVariables false
set_option linter.unusedSimpArgs false

/-- The digest of the image without anything. -/
def emptySum : List Int := imgSum [] [] ⟨#[]⟩
theorem emptySum_len : emptySum.length = 32 := imgSum_len _ _ _
set_option maxRecDepth 100000 in
set_option maxHeartbeats 4000000 in
theorem nothing_calls (w : World) : Calls Tryz.prog 25 #[] w fun e w' => e = .returned (.agg (nums .u8 emptySum).toArray) ∧ Below w.heap.size w w' := by
  have HC := Aside0.mk (show ∀ W, Calls Tryz.prog 15 #[.agg #[.slice none 0 0, .slice none 0 0, .string ⟨#[]⟩]] W fun e w' => e = .returned (.agg (nums .u8 emptySum).toArray) ∧ Below W.heap.size W w' from fun W => imageSum_calls none 0 [] none 0 [] ⟨#[]⟩ W (Kd.C_nil _ _) (Nat.le_refl _) (Kd.C_nil _ _) (Nat.le_refl _) (by decide +kernel))
  have D0 := Aside0.mk (Blk.new w 28 (nums .u8 (outL [] 0)).toArray)
  have W0 := Aside0.mk ((Below.refl w.heap.size w).alloc (Nat.le_refl _) (.cells (nums .u8 (outL [] 0)).toArray 28))
  generalize hw0 : w.alloc (.cells (nums .u8 (outL [] 0)).toArray 28) = w0 at D0 W0
  have HW0 := Aside0.mk hw0
  clear hw0
  go_enter Tryz.func25, Tryz.ntmps25
  go_wp2_with (first | (rw [show (w.alloc (.cells #[.int .u8 0, .int .u8 0, .int .u8 0, .int .u8 0, .int .u8 0, .int .u8 0, .int .u8 0, .int .u8 0, .int .u8 0, .int .u8 0, .int .u8 0, .int .u8 0, .int .u8 0, .int .u8 0, .int .u8 0, .int .u8 0, .int .u8 0, .int .u8 0, .int .u8 0, .int .u8 0, .int .u8 0, .int .u8 0, .int .u8 0, .int .u8 0, .int .u8 0, .int .u8 0, .int .u8 0, .int .u8 0, .int .u8 0, .int .u8 0, .int .u8 0, .int .u8 0] 28)) = w0 from HW0.out]) | ((with_reducible refine (HC.out _).mono ?_); rintro e w3 ⟨rfl, hb⟩; have W3 := Aside0.mk (below_then W0.out W0.out.size hb); have D3 := Aside0.mk (D0.out.below hb D0.out.lt); clear hb) | (refine wpList_store_row rfl 28 (.tmp 0) (.tmp 2) rfl w.heap.size _ rfl rfl 28 _ D3.out (by rw [List.size_toArray, nums_length, emptySum_len]; kernel_rfl) (by rw [List.size_toArray, nums_length, outL_len, List.size_toArray, nums_length, emptySum_len]) (nums_all8 _) ?_))
  exact bodyPost_ret (results_cell_row (p := 0) (ty := 28) rfl _ _ w.heap.size 28 _ (0, 0) _ rfl (D3.out.setRow_ _) Tryz.underlying28 rfl (by rw [List.size_toArray, nums_length, emptySum_len]; kernel_rfl)) rfl ⟨rfl, below_setRow' W3.out (Nat.le_refl _) _⟩
set_option maxRecDepth 100000 in
set_option maxHeartbeats 4000000 in
theorem one_calls (s : ByteArray) (w : World) (hs : s.size ≤ 140737488355328) : Calls Tryz.prog 29 #[.string s] w fun e w' => e = .returned (.agg (nums .u8 (sumL s)).toArray) ∧ Below w.heap.size w w' := by
  have HS := Aside0.mk hs
  have D0 := Aside0.mk (Blk.new w 28 (nums .u8 (outL [] 0)).toArray)
  have W0 := Aside0.mk ((Below.refl w.heap.size w).alloc (Nat.le_refl _) (.cells (nums .u8 (outL [] 0)).toArray 28))
  generalize hw0 : w.alloc (.cells (nums .u8 (outL [] 0)).toArray 28) = w0 at D0 W0
  have HW0 := Aside0.mk hw0
  clear hw0 hs
  have W2 := W0.out.alloc (by have := W0.out.size; omega) (.cells #[.string s] 9)
  have D2 := D0.out.alloc (.cells #[.string s] 9)
  have S2 := (Blk.new w0 9 #[.string s])
  generalize hw2 : w0.alloc (.cells #[.string s] 9) = w2 at W2 D2 S2
  have HW2 := Aside0.mk hw2
  have S2l := Aside0.mk S2.lt
  have W2 := Aside0.mk W2
  have D2 := Aside0.mk D2
  have S2 : Aside0 (w2.cell? ⟨w0.heap.size, 0, none⟩ = some (.string s)) := ⟨S2.cell 0⟩
  clear hw2
  go_enter Tryz.func29, Tryz.ntmps29
  go_wp2_with (first | (rw [show (w.alloc (.cells #[.int .u8 0, .int .u8 0, .int .u8 0, .int .u8 0, .int .u8 0, .int .u8 0, .int .u8 0, .int .u8 0, .int .u8 0, .int .u8 0, .int .u8 0, .int .u8 0, .int .u8 0, .int .u8 0, .int .u8 0, .int .u8 0, .int .u8 0, .int .u8 0, .int .u8 0, .int .u8 0, .int .u8 0, .int .u8 0, .int .u8 0, .int .u8 0, .int .u8 0, .int .u8 0, .int .u8 0, .int .u8 0, .int .u8 0, .int .u8 0, .int .u8 0, .int .u8 0] 28)) = w0 from HW0.out]) | (rw [show w0.alloc (.cells #[.string s] 9) = w2 from HW2.out]) | ((with_reducible refine (rsum_calls w0.heap.size 0 1 s w2 S2.out S2l.out HS.out (Nat.le_refl _)).mono ?_); rintro e w3 ⟨rfl, hb⟩; have W3 := Aside0.mk (below_then W2.out W2.out.size hb); have D3 := Aside0.mk (D2.out.below hb D2.out.lt); clear hb) | (refine wpList_store_row rfl 28 (.tmp 2) (.tmp 5) rfl w.heap.size _ rfl rfl 28 _ D3.out (by rw [List.size_toArray, nums_length, sumL_len]; kernel_rfl) (by rw [List.size_toArray, nums_length, outL_len, List.size_toArray, nums_length, sumL_len]) (nums_all8 _) ?_))
  exact bodyPost_ret (results_cell_row (p := 2) (ty := 28) rfl _ _ w.heap.size 28 _ (0, 0) _ rfl (D3.out.setRow_ _) Tryz.underlying28 rfl (by rw [List.size_toArray, nums_length, sumL_len]; kernel_rfl)) rfl ⟨rfl, below_setRow' W3.out (Nat.le_refl _) _⟩

theorem lenB_inj : ∀ (k n m : Nat) (x y : List UInt8), n < k → lenB n ++ x = lenB m ++ y → n = m ∧ x = y
  | k + 1, n, m, x, y, h, e => by
    rw [lenB.eq_def n, lenB.eq_def m] at e
    by_cases c : 128 ≤ n
    · rw [if_pos c] at e
      by_cases d : 128 ≤ m
      · rw [if_pos d] at e
        simp only [List.cons_append, List.cons.injEq] at e
        obtain ⟨e1, e2⟩ := e
        obtain ⟨e3, e4⟩ := lenB_inj k (n / 128) (m / 128) x y (by omega) e2
        have e5 := congrArg UInt8.toNat e1
        rw [UInt8.toNat_ofNat', UInt8.toNat_ofNat'] at e5
        exact ⟨by omega, e4⟩
      · rw [if_neg d] at e
        simp only [List.cons_append, List.cons.injEq] at e
        have e5 := congrArg UInt8.toNat e.1
        rw [UInt8.toNat_ofNat', UInt8.toNat_ofNat'] at e5
        omega
    · rw [if_neg c] at e
      by_cases d : 128 ≤ m
      · rw [if_pos d] at e
        simp only [List.cons_append, List.cons.injEq] at e
        have e5 := congrArg UInt8.toNat e.1
        rw [UInt8.toNat_ofNat', UInt8.toNat_ofNat'] at e5
        omega
      · rw [if_neg d] at e
        simp only [List.cons_append, List.nil_append, List.cons.injEq] at e
        have e5 := congrArg UInt8.toNat e.1
        rw [UInt8.toNat_ofNat', UInt8.toNat_ofNat'] at e5
        exact ⟨by omega, e.2⟩
theorem rowB_inj : ∀ l m : List ByteArray, rowB l = rowB m → l = m
  | [], [], _ => rfl
  | [], t :: m, h => by
    have := lenB_ne t.size
    simp [rowB] at h
    exact absurd h.1 this
  | s :: l, [], h => by
    have := lenB_ne s.size
    simp [rowB] at h
    exact absurd h.1 this
  | s :: l, t :: m, h => by
    simp only [rowB, List.append_assoc] at h
    obtain ⟨e1, e2⟩ := lenB_inj _ _ _ _ _ (Nat.lt_succ_self _) h
    obtain ⟨e3, e4⟩ := List.append_inj e2 (by rw [Array.length_toList, Array.length_toList]; exact e1)
    have e5 : s = t := by
      cases s
      cases t
      congr 1
      exact Array.toList_inj.1 e3
    rw [e5, rowB_inj l m e4]
theorem imageL_inj {f0 f1 g0 g1 : List ByteArray} {s t : ByteArray} (h : imageL f0 f1 s = imageL g0 g1 t) : f0 = g0 ∧ f1 = g1 ∧ s = t := by
  have e := rowB_inj _ _ h
  simp only [List.cons.injEq, and_true, true_and, ByteArray.mk.injEq] at e
  obtain ⟨e1, e2, e3⟩ := e
  have r1 : rowB f0 = rowB g0 := by
    have := congrArg Array.toList e1
    simpa using this
  have r2 : rowB f1 = rowB g1 := by
    have := congrArg Array.toList e2
    simpa using this
  exact ⟨rowB_inj _ _ r1, rowB_inj _ _ r2, e3⟩
end Go.Proofs.YtoljjgabgdifbaaGreatDoor.H

namespace Go.Proofs.YtoljjgabgdifbaaGreatDoor.H
open Go.RowKit Go.Proofs.YtoljjgabgdifbaaGreatDoorW.PrintWords Go.Proofs.YtoljjgabgdifbaaGreatDoorW.PrintLast Go.Proofs.YtoljjgabgdifbaaGreatDoorW.PrintMore
attribute [local go_sem] max2_int min2_int max_two min_two max_three min_three max_four min_four
set_option linter.unusedVariables false
set_option linter.unusedSimpArgs false
theorem eqA46 (d : Nat) (w : World) (x0 y0 : Int) (x1 y1 : ByteArray) :
    (Op.equalIn (d + 2) 46 (.agg #[.int .i64 x0, .string x1]) (.agg #[.int .i64 y0, .string y1])).run Tryz.prog w = .ok (x0 == y0 && (x1.toList == y1.toList)) w := by
  refine eqA_of Tryz.underlying46 (by kernel_rfl) ?_
  refine eqf_cons (by rfl) (by go_simp; rfl) (by go_simp; rfl) (by go_simp) ?_
  exact eqf_last (by rfl) (by go_simp; rfl) (by go_simp; rfl) (by go_simp)
attribute [local go_sem high] eqA46
/-! ### hibernacleref35_sameWrites: function 22 -/
end Go.Proofs.YtoljjgabgdifbaaGreatDoor.H

namespace Go.Proofs.YtoljjgabgdifbaaGreatDoor.H
open Go.RowKit Go.Proofs.YtoljjgabgdifbaaGreatDoorW.PrintWords Go.Proofs.YtoljjgabgdifbaaGreatDoorW.PrintLast Go.Proofs.YtoljjgabgdifbaaGreatDoorW.PrintMore
set_option linter.unusedVariables false
set_option linter.unusedSimpArgs false

/-- A digest's numbers. -/
structure Dig (L : List Int) : Prop where
  len : L.length = 32
  rg : ∀ v ∈ L, 0 ≤ v ∧ v < 256
theorem outL_dig (h : List Int) : Dig (outL h 32) := by
  refine ⟨outL_len _ _, fun v hv => ?_⟩
  simp only [outL, List.mem_map] at hv
  obtain ⟨i, _, rfl⟩ := hv
  split
  · unfold outAt
    omega
  · omega
theorem sumL_dig (s : ByteArray) : Dig (sumL s) := outL_dig _
theorem imgSum_dig (f0 f1 : List ByteArray) (s : ByteArray) : Dig (imgSum f0 f1 s) := sumL_dig _
def byteL (L : List Int) : List UInt8 := L.map fun n => UInt8.ofNat n.toNat
theorem byteL_cells {L : List Int} (h : ∀ v ∈ L, 0 ≤ v ∧ v < 256) : nums .u8 L = (byteL L).map Extern.Stop.cell := by
  simp only [nums, byteL, List.map_map]
  apply List.map_congr_left
  intro v hv
  have := h v hv
  simp only [Function.comp, Extern.Stop.cell, UInt8.toNat_ofNat']
  rw [show Int.ofNat (v.toNat % 2 ^ 8) = v from by show ((v.toNat % 2 ^ 8 : Nat) : Int) = v; omega]
theorem byteL_inj {L M : List Int} (hL : ∀ v ∈ L, 0 ≤ v ∧ v < 256) (hM : ∀ v ∈ M, 0 ≤ v ∧ v < 256) (h : byteL L = byteL M) : L = M := by
  have e : ∀ L : List Int, (∀ v ∈ L, 0 ≤ v ∧ v < 256) → (byteL L).map (fun b => (b.toNat : Int)) = L := by
    intro L hL
    simp only [byteL, List.map_map]
    rw [List.map_congr_left (g := id)]
    · simp
    · intro v hv
      have := hL v hv
      simp only [Function.comp, UInt8.toNat_ofNat', id]
      omega
  rw [← e L hL, ← e M hM, h]
/-- Two digests are the same just if their numbers are. -/
theorem eq_dig {L M : List Int} (hL : Dig L) (hM : Dig M) (w : World) : (Op.equalIn 10000 28 (.agg (nums .u8 L).toArray) (.agg (nums .u8 M).toArray)).run Tryz.prog w = .ok (decide (L = M)) w := by
  rw [byteL_cells hL.rg, byteL_cells hM.rg, run_equalIn_bytes w 9998 28 5 32 Tryz.underlying28 Tryz.underlying5 (fun w => Tryz.sizeOf5 w) (byteL L) (byteL M) (by simp [byteL, hL.len]) (by simp [byteL, hM.len])]
  congr 1
  rw [Bool.eq_iff_iff, beq_iff_eq, decide_eq_true_iff]
  exact ⟨fun h => byteL_inj hL.rg hM.rg h, fun h => by rw [h]⟩
theorem dArr_range (w : World) (g : Nat) (L M : List Int) (hL : L.length = 32) (hM : M.length = 32) (v1 v2 : Value) (s : ByteArray) (h : Blk w g 31 (dArr L v1 v2 s M)) : w.rangeAt g 0 (nums .u8 L) ∧ w.rangeAt g 35 (nums .u8 M) := by
  have n0 : (nums .u8 L).length = 32 := by rw [nums_length]; exact hL
  constructor
  · intro j v hj
    have hlt : j < 32 := by rw [← n0]; exact (List.getElem?_eq_some_iff.1 hj).1
    rw [Nat.zero_add, h.cell, ← hj]
    unfold dArr
    rw [List.getElem?_toArray, List.append_assoc, List.getElem?_append_left (by omega)]
  · intro j v hj
    rw [h.cell, ← hj]
    unfold dArr
    rw [List.getElem?_toArray, List.getElem?_append_right (by simp [n0]), List.length_append, n0]
    congr 1
    simp
theorem dArr_mid (L M : List Int) (hL : L.length = 32) (v1 v2 : Value) (s : ByteArray) : (dArr L v1 v2 s M)[32]? = some v1 ∧ (dArr L v1 v2 s M)[33]? = some v2 ∧ (dArr L v1 v2 s M)[34]? = some (.string s) := by
  have n0 : (nums .u8 L).length = 32 := by rw [nums_length]; exact hL
  unfold dArr
  rw [List.getElem?_toArray, List.getElem?_toArray, List.getElem?_toArray, List.append_assoc]
  refine ⟨?_, ?_, ?_⟩
  · rw [List.getElem?_append_right (by omega), n0]; rfl
  · rw [List.getElem?_append_right (by omega), n0]; rfl
  · rw [List.getElem?_append_right (by omega), n0]; rfl

theorem wpList_load_midg {ops : Array Oper} {rest : List Oper} {op : Oper} {a : Act} {w : World} {Q : Exit → Act → World → Prop} (hw : Region.wanted op (yielded ops a.tmps) = true) (ty : TypeId) (x : Operand) (ho : op.op = .load ty x)
    (b o : Nat) (hx : a.eval x = .pointer (some ⟨b, o, none⟩)) (cs : Array Value) (hc : (Instr.loadAt ty (.pointer (some ⟨b, o, none⟩))).run Tryz.prog w = .ok (.agg cs) w)
    (h : wpList Tryz.prog ops Q rest (a.put op.dst (.agg cs)) w) : wpList Tryz.prog ops Q (op :: rest) a w :=
  wpList_step fun K hK => by
    rw [if_pos hw]
    unfold Oper.wp execOp
    simp only [ho, hx, hc, Sem.run_bind, Sem.run_pure, Result.andThen_ok]
    exact hK _ _ h
end Go.Proofs.YtoljjgabgdifbaaGreatDoor.H


namespace Go.Proofs.YtoljjgabgdifbaaGreatDoor.H
open Go.RowKit Go.Proofs.YtoljjgabgdifbaaGreatDoorW.PrintWords Go.Proofs.YtoljjgabgdifbaaGreatDoorW.PrintLast Go.Proofs.YtoljjgabgdifbaaGreatDoorW.PrintMore
attribute [local go_sem] max2_int min2_int max_two min_two max_three min_three max_four min_four
set_option linter.unusedVariables false
set_option linter.unusedSimpArgs false
theorem info9 : (Tryz.prog.info? 9).map (fun i => (i.zero, i.size, i.bytes)) = some (some (.string ⟨#[]⟩), 1, 16) := by kernel_rfl
/-! ### delta_done: function 31 -/
mutual
def delta_done.l0 : Nat → List ByteArray → List (S46) → Int → Int → Option (List ByteArray × Int)
  | 0, _, _, _, _ => none
  | k + 1, x0, x10, x11, x12 => if x12 < x11 then (if 0 ≤ x12 then (if x12 < (x10.length : Int) then (if ((rd_T46 x10 x12).f0) < 0 then (delta_done.j1 k x0 x10 x11 x12 true ((rd_T46 x10 x12).f0) ((rd_T46 x10 x12).f1)) else (delta_done.j1 k x0 x10 x11 x12 (decide (((rd_T46 x10 x12).f0) > (x0.length : Int))) ((rd_T46 x10 x12).f0) ((rd_T46 x10 x12).f1))) else (none)) else (none)) else (some (x0, 0))
def delta_done.j1 : Nat → List ByteArray → List (S46) → Int → Int → Bool → Int → ByteArray → Option (List ByteArray × Int)
  | 0, _, _, _, _, _, _, _ => none
  | k + 1, x0, x10, x11, x12, x22, x262000, x262001 => if x22 = true then (some (([] : List ByteArray), 2)) else (if x262000 = (x0.length : Int) then (if x0.length < 8796093022208 then (delta_done.l0 k (x0 ++ [x262001]) x10 x11 (wrap64 (x12 + 1))) else (none)) else (if 0 ≤ x262000 then (if x262000 < (x0.length : Int) then (delta_done.l0 k (x0.set (x262000 : Int).toNat x262001) x10 x11 (wrap64 (x12 + 1))) else (none)) else (none)))
end
def delta_done.f (k : Nat) (l0 : List ByteArray) (l1 : List (S46)) : Option (List ByteArray × Int) := (slices_Clone_string_string.f l0).bind fun t257 => (delta_done.l0 k t257 l1 (l1.length : Int) 0)
set_option maxHeartbeats 8000000 in
set_option maxRecDepth 100000 in
theorem delta_done.calls (k : Nat) (A0 : Option Addr) (c0 : Nat) (l0 : List ByteArray) (A1 : Option Addr) (c1 : Nat) (l1 : List (S46)) (r1 : List ByteArray) (r2 : Int) (w : World) (hr0 : Kd.C Kd.string w A0 l0.length l0) (hc0 : l0.length ≤ c0) (hr1 : Kd.C k46 w A1 l1.length l1) (hc1 : l1.length ≤ c1) (h : delta_done.f k l0 l1 = some (r1, r2)) :
    Calls Tryz.prog 26 #[.slice A0 l0.length c0, .slice A1 l1.length c1] w fun e w' => ∃ v0_ : Value, e = .returned (.tuple #[v0_, .int .i64 r2]) ∧ Kd.R Kd.string 9 w' w.heap.size (fun _ => True) v0_ r1 ∧ Below w.heap.size w w' := by
  have hu46 := Tryz.underlying46
  have HR0 := Aside0.mk hr0
  have HC0 := Aside0.mk hc0
  clear hr0 hc0
  have HR1 := Aside0.mk hr1
  have HC1 := Aside0.mk hc1
  clear hr1 hc1
  have HB := Aside0.mk (Below.refl w.heap.size w)
  have H : ((slices_Clone_string_string.f l0).bind fun t257 => (delta_done.l0 k t257 l1 (l1.length : Int) 0)) = some (r1, r2) := h
  clear h
  replace H := Option.bind_eq_some_iff.mp H
  obtain ⟨t257, A30, H⟩ := H
  replace H : (delta_done.l0 k t257 l1 (l1.length : Int) 0) = some (r1, r2) := H
  have A3 := Aside0.mk A30
  clear A30
  have H' := Aside0.mk H
  clear H
  go_enter Tryz.func26, Tryz.ntmps26
  go_wp2_with (first | ((with_reducible refine gate_callee (f := 41) rfl ?_); refine goesL_ (some 9) rfl rfl Tryz.func41 (by kernel_rfl) rfl #[.slice A0 l0.length c0] rfl (by (try simp only [List.map_toArray, List.map_cons, List.map_nil]); first | done | rfl | (simp only [List.length_drop, List.length_take]; rfl)) ?_; (with_reducible refine (slices_Clone_string_string.calls _ _ l0 t257 _ ?side1 ?side2 A3.out).mono ?_); (case side1 => repeat (first | exact HR0.out | (with_reducible refine Kd.C_alloc ?_ _) | (with_reducible refine Kd.C_drewN ?_ _) | (with_reducible refine Kd.C_drew ?_))); (case side2 => exact HC0.out); rintro e w4 ⟨v258, rfl, ho0, hb⟩; refine ⟨_, rfl, ?_⟩; have n0_ := Aside0.mk (Kd.R_lower ho0 (below_size (by repeat (first | (with_reducible first | exact HB.out | apply below_alloc | apply pw_below_drewN | apply below_drew1) | exact HB.out)))); have n1_ := Aside0.mk (below_step (by repeat (first | (with_reducible first | exact HB.out | apply below_alloc | apply pw_below_drewN | apply below_drew1) | exact HB.out)) hb); clear HB; have HO259 := n0_; have HB := n1_; clear n0_ n1_; (try clear hb); (try clear hb2); (try clear hk); (try clear hi); (try clear ho0)))
  go_loopg [0, 12] k (fun kq v0 v12 w' => ∃ (x0_1 : List ByteArray) (x12_1 : Int), v12 = .int .i64 x12_1 ∧ Aside0 (delta_done.l0 kq x0_1 l1 (l1.length : Int) x12_1 = some (r1, r2)) ∧ Aside0 (kq ≤ k) ∧ Aside0 (Kd.R Kd.string 9 w' w.heap.size (fun _ => True) v0 x0_1) ∧ Aside0 (Below w.heap.size w w'))
  case atStart => exact ⟨(t257), (0), (by first | rfl | (simp; done) | (simp [*]; done)), H', ⟨Nat.le_refl _⟩, ⟨by (with_reducible repeat (first | apply Kd.R_alloc | apply Kd.R_drewN | apply Kd.R_drew)); exact HO259.out⟩, ⟨by repeat (first | (with_reducible first | exact HB.out | apply below_alloc | apply pw_below_drewN | apply below_drew1) | exact HB.out)⟩⟩
  case round =>
    clear H'
    try clear c1
    try clear p2
    try clear c3
    try clear c4
    obtain ⟨x0_1, x12_1, rfl, HA, HK1, HO_0, HB⟩ := hrel
    cases gk with
    | zero => exact absurd HA.out (by simp [delta_done.l0])
    | succ k1 =>
      have H := HA.out
      clear HA
      simp only [delta_done.l0] at H
      by_cases c5 : x12_1 < (l1.length : Int)
      · rw [if_pos c5] at H
        have c5b0 : decide (x12_1 < (l1.length : Int)) = true := decide_eq_true c5
        clear c5
        by_cases c6 : 0 ≤ x12_1
        · rw [if_pos c6] at H
          have c6b0 : decide (0 ≤ x12_1) = true := decide_eq_true c6
          clear c6
          by_cases c7 : x12_1 < (l1.length : Int)
          · rw [if_pos c7] at H
            have c7b0 : decide (x12_1 < (l1.length : Int)) = true := decide_eq_true c7
            clear c7
            have HC8 := Aside0.mk H
            clear H
            have p260 : 0 ≤ (x12_1 : Int) := of_decide_eq_true (by first | (with_reducible assumption) | assumption)
            have q260 : x12_1 < (l1.length : Int) := of_decide_eq_true (by first | (with_reducible assumption) | assumption)
            obtain ⟨ad260, e260, hx260_0, hx260_1⟩ := at_T46 HR1.out x12_1 p260 q260
            cases e260
            replace hx260_0 := (HB.out.cell (World.block_lt_of_cell? w _ hx260_0)).trans hx260_0
            replace hx260_1 := (HB.out.cell (World.block_lt_of_cell? w _ hx260_1)).trans hx260_1
            replace p260 := eq_true p260
            replace q260 := eq_true q260
            go_upto_region 6 with (first | ((with_reducible refine gate_dst (N := 7) rfl ?_); (try (refine gate_guard (by rfl) ?_; dsimp only)); refine box_event ?hg (N := 7) ?hd (cs := #[.int .i64 0, .string (⟨#[]⟩ : ByteArray)]) (t := 46) ?hr ?_; (case hd => rfl); (case hg => rfl); (case hr => first | (go_simp; done) | (go_simp; rfl)); intro gb261 hg w9 hbox hb; have n0_ := Aside0.mk (Kd.R_below (by (with_reducible repeat (first | apply Kd.R_alloc | apply Kd.R_drewN | apply Kd.R_drew)); exact HO_0.out) hb); have n1_ := Aside0.mk (below_step (by repeat (first | (with_reducible first | exact HB.out | apply below_alloc | apply pw_below_drewN | apply below_drew1) | exact HB.out)) hb); have n2_ := Aside0.mk (hbox); have n3_ := Aside0.mk ((by rw [hg]; exact (below_size (by repeat (first | (with_reducible first | exact HB.out | apply below_alloc | apply pw_below_drewN | apply below_drew1) | exact HB.out))) : w.heap.size ≤ gb261)); have n4_ := Aside0.mk ((by rw [hg]; exact (below_size (by repeat (first | (with_reducible first | exact HB.out | apply below_alloc | apply pw_below_drewN | apply below_drew1) | exact HB.out))) : w.heap.size ≤ gb261)); clear HO_0; clear HB; have HO_0 := n0_; have HB := n1_; have BK261 := n2_; have GW261 := n3_; have GE261 := n4_; clear n0_ n1_ n2_ n3_ n4_; clear hb hbox hg; have hcz10_0 : w9.cell? ⟨gb261, 0, none⟩ = some (.int .i64 0) := (blk_cell BK261.out 0).trans rfl; have hcz10_1 : w9.cell? ⟨gb261, 1, none⟩ = some (.string (⟨#[]⟩ : ByteArray)) := (blk_cell BK261.out 1).trans rfl; have hfz10_0 := blk_frozen BK261.out 0; have hfz10_1 := blk_frozen BK261.out 1))
            (try simp only [Act.put, List.setIfInBounds_toArray, List.set_cons_zero, List.set_cons_succ])
            go_cut [22] (fun v22 wc => ∃ (kq : Nat) (x22_7 : Bool), v22 = .bool x22_7 ∧ Aside0 (delta_done.j1 kq x0_1 l1 (l1.length : Int) x12_1 x22_7 ((rd_T46 l1 x12_1).f0) ((rd_T46 l1 x12_1).f1) = some (r1, r2)) ∧ Aside0 (kq ≤ k1) ∧ Aside0 (Kd.R Kd.string 9 wc w.heap.size (fun _ => True) u0 x0_1) ∧ Aside0 (wc.heap[gb261]? = some (.cells #[.int .i64 ((rd_T46 l1 x12_1).f0), .string ((rd_T46 l1 x12_1).f1)] 46 (0, 0))) ∧ Aside0 (Below w.heap.size w wc))
            case first =>
              have H := HC8.out
              clear HC8
              by_cases c11 : ((rd_T46 l1 x12_1).f0) < 0
              · rw [if_pos c11] at H
                have c11b0 : decide (((rd_T46 l1 x12_1).f0) < 0) = true := decide_eq_true c11
                clear c11
                (first | rw [c11b0] | (simp only [i64_w, i32_w]; rw [c11b0]) | skip)
                have H' := Aside0.mk H
                clear H
                have hcz12_0 : w9.cell? ⟨gb261, 0, none⟩ = some (.int .i64 0) := (blk_cell BK261.out 0).trans rfl
                have hcz12_1 : w9.cell? ⟨gb261, 1, none⟩ = some (.string (⟨#[]⟩ : ByteArray)) := (blk_cell BK261.out 1).trans rfl
                have hfz12_0 := blk_frozen BK261.out 0
                have hfz12_1 := blk_frozen BK261.out 1
                go_wp2
                go_meet
                case rel => exact ⟨_, (true), (by first | rfl | (simp; done) | (simp [*]; done)), H', ⟨by have := HK1.out; first | omega | exact Nat.le_refl _⟩, ⟨by (with_reducible repeat (first | apply Kd.R_alloc | apply Kd.R_drewN | apply Kd.R_drew)); exact Kd.R_mono (Kd.R_far (p := ⟨gb261, 1, none⟩) (Kd.R_far (p := ⟨gb261, 0, none⟩) (Kd.R_types HO_0.out BK261.out (by decide)) (fun _ hk => hk.2) (.int .i64 ((rd_T46 l1 x12_1).f0))) (fun _ hk => hk.2) (.string ((rd_T46 l1 x12_1).f1))) (fun _ hk => trivial)⟩, ⟨by (with_reducible repeat (first | refine blk_drewN ?_ _ | refine blk_drew ?_ | refine blk_alloc ?_ _)); refine blk_put (cs := #[.int .i64 ((rd_T46 l1 x12_1).f0), .string (⟨#[]⟩ : ByteArray)]) ?_ 1 _ rfl; (with_reducible repeat (first | refine blk_drewN ?_ _ | refine blk_drew ?_ | refine blk_alloc ?_ _)); refine blk_put (cs := #[.int .i64 0, .string (⟨#[]⟩ : ByteArray)]) ?_ 0 _ rfl; (with_reducible repeat (first | refine blk_drewN ?_ _ | refine blk_drew ?_ | refine blk_alloc ?_ _)); exact BK261.out⟩, ⟨by repeat (first | (with_reducible first | exact HB.out | apply below_alloc | apply pw_below_drewN | apply below_drew1 | refine below_set ?_ GE261.out) | exact HB.out)⟩⟩
              · rw [if_neg c11] at H
                have c11b0 : decide (((rd_T46 l1 x12_1).f0) < 0) = false := decide_eq_false c11
                clear c11
                (first | rw [c11b0] | (simp only [i64_w, i32_w]; rw [c11b0]) | skip)
                have H' := Aside0.mk H
                clear H
                have hcz13_0 : w9.cell? ⟨gb261, 0, none⟩ = some (.int .i64 0) := (blk_cell BK261.out 0).trans rfl
                have hcz13_1 : w9.cell? ⟨gb261, 1, none⟩ = some (.string (⟨#[]⟩ : ByteArray)) := (blk_cell BK261.out 1).trans rfl
                have hfz13_0 := blk_frozen BK261.out 0
                have hfz13_1 := blk_frozen BK261.out 1
                obtain ⟨Ao14, co14, eo14⟩ := Kd.R_slice HO_0.out
                subst eo14
                go_wp2
                go_meet
                case rel => exact ⟨_, (decide (((rd_T46 l1 x12_1).f0) > (x0_1.length : Int))), (by first | rfl | (simp; done) | (simp [*]; done)), H', ⟨by have := HK1.out; first | omega | exact Nat.le_refl _⟩, ⟨by (with_reducible repeat (first | apply Kd.R_alloc | apply Kd.R_drewN | apply Kd.R_drew)); exact Kd.R_mono (Kd.R_far (p := ⟨gb261, 1, none⟩) (Kd.R_far (p := ⟨gb261, 0, none⟩) (Kd.R_types HO_0.out BK261.out (by decide)) (fun _ hk => hk.2) (.int .i64 ((rd_T46 l1 x12_1).f0))) (fun _ hk => hk.2) (.string ((rd_T46 l1 x12_1).f1))) (fun _ hk => trivial)⟩, ⟨by (with_reducible repeat (first | refine blk_drewN ?_ _ | refine blk_drew ?_ | refine blk_alloc ?_ _)); refine blk_put (cs := #[.int .i64 ((rd_T46 l1 x12_1).f0), .string (⟨#[]⟩ : ByteArray)]) ?_ 1 _ rfl; (with_reducible repeat (first | refine blk_drewN ?_ _ | refine blk_drew ?_ | refine blk_alloc ?_ _)); refine blk_put (cs := #[.int .i64 0, .string (⟨#[]⟩ : ByteArray)]) ?_ 0 _ rfl; (with_reducible repeat (first | refine blk_drewN ?_ _ | refine blk_drew ?_ | refine blk_alloc ?_ _)); exact BK261.out⟩, ⟨by repeat (first | (with_reducible first | exact HB.out | apply below_alloc | apply pw_below_drewN | apply below_drew1 | refine below_set ?_ GE261.out) | exact HB.out)⟩⟩
            case rest =>
              clear HC8
              try clear c1
              try clear p2
              try clear q2
              try clear hx2
              try clear c3
              try clear c4
              try clear c5
              try clear c5b0
              try clear c6
              try clear c6b0
              try clear c7
              try clear c7b0
              try clear c11
              try clear c11b0
              try clear hcz10_0
              try clear hcz10_1
              try clear hcz12_0
              try clear hcz12_1
              try clear hcz13_0
              try clear hcz13_1
              try clear hfz10_0
              try clear hfz10_1
              try clear hfz12_0
              try clear hfz12_1
              try clear hfz13_0
              try clear hfz13_1
              try clear hx260_0
              try clear hx260_1
              try clear p2
              try clear p260
              try clear q260
              obtain ⟨kq, x22_7, rfl, HA, HJ7, HO_0, BK261, HB⟩ := hcut
              cases kq with
              | zero => exact absurd HA.out (by simp [delta_done.j1])
              | succ kj7 =>
                have H := HA.out
                clear HA
                simp only [delta_done.j1] at H
                by_cases c15 : x22_7 = true
                · subst c15
                  have H1 : (some (([] : List ByteArray), 2)) = some (r1, r2) := by rw [if_pos rfl] at H; exact H
                  clear H
                  have H := H1
                  clear H1
                  simp only [Option.some.injEq, Prod.mk.injEq] at H
                  obtain ⟨rfl, rfl⟩ := H
                  go_wp2
                  go_ret2
                  exact ⟨_, by first | rfl | (simp [errW_none, errW_some] <;> rfl) | (simp [*, errW_none, errW_some] <;> rfl), by first | exact Kd.R_nil _ _ _ _ _ | exact Kd.N_nil _ _ _ _ _ | exact Kd.V_nil _ _ _ _ _ | exact Kd.Q_nil _ _ _ _ _ | exact Kd.S_nil _ _ _ _ _, by repeat (first | (with_reducible first | exact HB.out | apply below_alloc | apply pw_below_drewN | apply below_drew1 | refine below_set ?_ GE261.out) | exact HB.out)⟩
                · replace c15 := Bool.eq_false_iff.mpr c15
                  subst c15
                  have H1 : (if ((rd_T46 l1 x12_1).f0) = (x0_1.length : Int) then (if x0_1.length < 8796093022208 then (delta_done.l0 kj7 (x0_1 ++ [((rd_T46 l1 x12_1).f1)]) l1 (l1.length : Int) (wrap64 (x12_1 + 1))) else (none)) else (if 0 ≤ ((rd_T46 l1 x12_1).f0) then (if ((rd_T46 l1 x12_1).f0) < (x0_1.length : Int) then (delta_done.l0 kj7 (x0_1.set (((rd_T46 l1 x12_1).f0) : Int).toNat ((rd_T46 l1 x12_1).f1)) l1 (l1.length : Int) (wrap64 (x12_1 + 1))) else (none)) else (none))) = some (r1, r2) := by rw [if_neg (show ¬ (false = true) by decide)] at H; exact H
                  clear H
                  have H := H1
                  clear H1
                  by_cases c16 : ((rd_T46 l1 x12_1).f0) = (x0_1.length : Int)
                  · rw [if_pos c16] at H
                    have c16b0 : (((rd_T46 l1 x12_1).f0) == (x0_1.length : Int)) = true := beq_iff_eq.mpr c16
                    have c16b1 : (((rd_T46 l1 x12_1).f0) != (x0_1.length : Int)) = false := bne_eq_false_iff_eq.mpr c16
                    clear c16
                    by_cases c17 : x0_1.length < 8796093022208
                    · rw [if_pos c17] at H
                      have LMc17 := Aside0.mk c17
                      clear c17
                      obtain ⟨y262, hy262⟩ : ∃ y_ : List ByteArray, y_ = (x0_1 ++ [((rd_T46 l1 x12_1).f1)]) := ⟨_, rfl⟩
                      replace H : (delta_done.l0 kj7 y262 l1 (l1.length : Int) (wrap64 (x12_1 + 1))) = some (r1, r2) := by first | (rw [hy262]; with_reducible exact H) | (have H2_ := (Option.bind_some _ _).symm.trans H; rw [hy262]; with_reducible exact H2_) | (have H2_ := (Option.bind_some _ _).symm.trans H; with_reducible exact H2_) | with_reducible exact H | (rw [hy262]; exact H) | exact H
                      have Ny262 := Aside0.mk hy262
                      clear hy262
                      have H' := Aside0.mk H
                      clear H
                      have hcz18_0 : wc.cell? ⟨gb261, 0, none⟩ = some (.int .i64 ((rd_T46 l1 x12_1).f0)) := (blk_cell BK261.out 0).trans rfl
                      have hcz18_1 : wc.cell? ⟨gb261, 1, none⟩ = some (.string ((rd_T46 l1 x12_1).f1)) := (blk_cell BK261.out 1).trans rfl
                      have hfz18_0 := blk_frozen BK261.out 0
                      have hfz18_1 := blk_frozen BK261.out 1
                      obtain ⟨Ao19, co19, eo19⟩ := Kd.R_slice HO_0.out
                      subst eo19
                      go_wp2_with (first | ((with_reducible refine gate_builtin (b := .append) (xs := #[.tmp 39, .tmp 42]) rfl ?_); (try (refine gate_guard (by rfl) ?_; dsimp only)); at_builtin; refine Kd.R_append Kd.string (w0 := w) w.heap.size rfl (.tmp 39) (.tmp 42) 22 9 (.string ⟨#[]⟩) 16 rfl Tryz.underlying22 info9 rfl (by decide) (by omega) (.slice Ao19 x0_1.length co19) x0_1 ((rd_T46 l1 x12_1).f1) [.string ((rd_T46 l1 x12_1).f1)] (fun _ => True) (fun _ => False) rfl rfl ?aP (fun _ hk => hk.elim) ?aF ?aO ?aB ?aS ?aL ?_; (case aP => exact rfl); (case aB => exact (by repeat (first | (with_reducible first | exact HB.out | apply below_alloc | apply pw_below_drewN | apply below_drew1 | refine below_set ?_ GE261.out) | exact HB.out))); (case aF => exact (fun _ _ => trivial)); (case aO => exact (by (with_reducible repeat (first | apply Kd.R_alloc | apply Kd.R_drewN | apply Kd.R_drew)); exact HO_0.out)); (case aS => exact (below_size (by repeat (first | (with_reducible first | exact HB.out | apply below_alloc | apply pw_below_drewN | apply below_drew1 | refine below_set ?_ GE261.out) | exact HB.out)))); (case aL => have := LMc17.out; omega); intro v263 w20 ho hb hg hat; rw [← Ny262.out] at ho; have n0_ := Aside0.mk (blk_grown (g := gb261) (o := .cells #[.int .i64 ((rd_T46 l1 x12_1).f0), .string ((rd_T46 l1 x12_1).f1)] 46 (0, 0)) (by (with_reducible repeat (first | refine blk_drewN ?_ _ | refine blk_drew ?_ | refine blk_alloc ?_ _)); exact BK261.out) hg (Kd.R_ne HO_0.out BK261.out (by decide))); have n1_ := Aside0.mk (hb); have n2_ := Aside0.mk (ho); clear BK261; clear HB; clear HO_0; have BK261 := n0_; have HB := n1_; have HO264 := n2_; clear n0_ n1_ n2_; clear ho hb hg hat))
                      go_roundg kj7
                      case measure => have := HK1.out; have := HJ7.out; omega
                      case rel => exact ⟨(y262), (wrap64 (x12_1 + 1)), (by first | rfl | (simp; done) | (simp [*]; done)), H', ⟨by have := HK1.out; have := HJ7.out; omega⟩, ⟨by (with_reducible repeat (first | apply Kd.R_alloc | apply Kd.R_drewN | apply Kd.R_drew)); exact HO264.out⟩, ⟨by repeat (first | (with_reducible first | exact HB.out | apply below_alloc | apply pw_below_drewN | apply below_drew1 | refine below_set ?_ GE261.out) | exact HB.out)⟩⟩
                    · rw [if_neg c17] at H
                      exact absurd H (by simp)
                  · rw [if_neg c16] at H
                    have c16b0 : (((rd_T46 l1 x12_1).f0) == (x0_1.length : Int)) = false := beq_eq_false_iff_ne.mpr c16
                    have c16b1 : (((rd_T46 l1 x12_1).f0) != (x0_1.length : Int)) = true := bne_iff_ne.mpr c16
                    by_cases c21 : 0 ≤ ((rd_T46 l1 x12_1).f0)
                    · rw [if_pos c21] at H
                      have c21b0 : decide (0 ≤ ((rd_T46 l1 x12_1).f0)) = true := decide_eq_true c21
                      clear c21
                      by_cases c22 : ((rd_T46 l1 x12_1).f0) < (x0_1.length : Int)
                      · rw [if_pos c22] at H
                        have c22b0 : decide (((rd_T46 l1 x12_1).f0) < (x0_1.length : Int)) = true := decide_eq_true c22
                        clear c22
                        obtain ⟨y265, hy265⟩ : ∃ y_ : List ByteArray, y_ = (x0_1.set (((rd_T46 l1 x12_1).f0) : Int).toNat ((rd_T46 l1 x12_1).f1)) := ⟨_, rfl⟩
                        replace H : (delta_done.l0 kj7 y265 l1 (l1.length : Int) (wrap64 (x12_1 + 1))) = some (r1, r2) := by first | (rw [hy265]; with_reducible exact H) | (have H2_ := (Option.bind_some _ _).symm.trans H; rw [hy265]; with_reducible exact H2_) | (have H2_ := (Option.bind_some _ _).symm.trans H; with_reducible exact H2_) | with_reducible exact H | (rw [hy265]; exact H) | exact H
                        have Ny265 := Aside0.mk hy265
                        clear hy265
                        have H' := Aside0.mk H
                        clear H
                        have hcz24_0 : wc.cell? ⟨gb261, 0, none⟩ = some (.int .i64 ((rd_T46 l1 x12_1).f0)) := (blk_cell BK261.out 0).trans rfl
                        have hcz24_1 : wc.cell? ⟨gb261, 1, none⟩ = some (.string ((rd_T46 l1 x12_1).f1)) := (blk_cell BK261.out 1).trans rfl
                        have hfz24_0 := blk_frozen BK261.out 0
                        have hfz24_1 := blk_frozen BK261.out 1
                        obtain ⟨Ao25, co25, eo25⟩ := Kd.R_slice HO_0.out
                        subst eo25
                        have p23 : 0 ≤ (((rd_T46 l1 x12_1).f0) : Int) := of_decide_eq_true (by first | (with_reducible assumption) | assumption)
                        have q23 : (((rd_T46 l1 x12_1).f0) : Int) < ((x0_1.length : Int) : Int) := of_decide_eq_true (by first | (with_reducible assumption) | assumption)
                        obtain ⟨go23, co23, eo23, gb23, gl23, cl23, HG23⟩ := Kd.R_form HO_0.out (by omega)
                        (first | cases eo23 | (injection eo23 with ea_ en_ ec_; (first | subst ea_ | (injection ea_ with ea_; subst ea_)); subst ec_; clear en_))
                        have GB23 := Aside0.mk gb23
                        have GG23 := Aside0.mk HG23
                        clear gb23 gl23 HG23
                        obtain ⟨hx23_0, hf23_0⟩ := Kd.R_celln (⟨#[]⟩ : ByteArray) HO_0.out (((rd_T46 l1 x12_1).f0) : Int) p23 q23
                        replace p23 := eq_true p23
                        replace q23 := eq_true q23
                        have HP26 := Kd.R_putg HO_0.out (((rd_T46 l1 x12_1).f0) : Int) ((rd_T46 l1 x12_1).f1)
                        go_wp2_with (first | ((with_reducible refine gate_store (t := 9) (p := 21) rfl ?_); refine store_event (t := 9) (p := 21) (v := ?vo_w27) (w1 := (wc.setCell ⟨go23, (((rd_T46 l1 x12_1).f0) : Int).toNat, none⟩ (.string ((rd_T46 l1 x12_1).f1)))) ?hg ?ho ?hn ?hr ?_; (case ho => rfl); (case hg => rfl); (case hn => rfl); (case hr => first | (go_simp; done) | (go_simp; rfl)); intro w27 hw; have hg : wc.grownBy w27 (some go23) := (by rw [hw]; exact HP26.2); have hp_ : Kd.R Kd.string 9 w27 w.heap.size (fun _ => True) (.slice (some ⟨go23, 0, none⟩) x0_1.length co25) y265 := (by rw [hw, Ny265.out]; exact HP26.1); clear HP26; have n0_ := Aside0.mk (hp_); have n1_ := Aside0.mk (blk_grown (g := gb261) (o := .cells #[.int .i64 ((rd_T46 l1 x12_1).f0), .string ((rd_T46 l1 x12_1).f1)] 46 (0, 0)) (by (with_reducible repeat (first | refine blk_drewN ?_ _ | refine blk_drew ?_ | refine blk_alloc ?_ _)); exact BK261.out) hg (Kd.R_ne HO_0.out BK261.out (by decide))); have n2_ := Aside0.mk ((by rw [hw]; exact below_set (HB.out) GB23.out : Below w.heap.size w w27)); clear HO_0; clear BK261; clear HB; have HO_0 := n0_; have BK261 := n1_; have HB := n2_; clear n0_ n1_ n2_; clear hg hw hp_))
                        go_roundg kj7
                        case measure => have := HK1.out; have := HJ7.out; omega
                        case rel => exact ⟨(y265), (wrap64 (x12_1 + 1)), (by first | rfl | (simp; done) | (simp [*]; done)), H', ⟨by have := HK1.out; have := HJ7.out; omega⟩, ⟨by (with_reducible repeat (first | apply Kd.R_alloc | apply Kd.R_drewN | apply Kd.R_drew)); exact HO_0.out⟩, ⟨by repeat (first | (with_reducible first | exact HB.out | apply below_alloc | apply pw_below_drewN | apply below_drew1 | refine below_set ?_ GE261.out) | exact HB.out)⟩⟩
                      · rw [if_neg c22] at H
                        exact absurd H (by simp)
                    · rw [if_neg c21] at H
                      exact absurd H (by simp)
          · rw [if_neg c7] at H
            exact absurd H (by simp)
        · rw [if_neg c6] at H
          exact absurd H (by simp)
      · rw [if_neg c5] at H
        have c5b0 : decide (x12_1 < (l1.length : Int)) = false := decide_eq_false c5
        clear c5
        simp only [Option.some.injEq, Prod.mk.injEq] at H
        obtain ⟨rfl, rfl⟩ := H
        go_wp2
        go_ret2
        exact ⟨_, by first | rfl | (simp [errW_none, errW_some] <;> rfl) | (simp [*, errW_none, errW_some] <;> rfl), by (with_reducible repeat (first | apply Kd.R_alloc | apply Kd.R_drewN | apply Kd.R_drew)); exact HO_0.out, by repeat (first | (with_reducible first | exact HB.out | apply below_alloc | apply pw_below_drewN | apply below_drew1) | exact HB.out)⟩

end Go.Proofs.YtoljjgabgdifbaaGreatDoor.H

