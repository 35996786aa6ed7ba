/- Layer 2's answer: the digest of bytes. -/
import Derived.Test.YtoljjgabgdifbaaH7
import Derived.Test.YtoljjgabgdifbaaR2
import Derived.Test.YtoljjgabgdifbaaG2
namespace Go.Proofs.Ytoljjgabgdifbaa.H
open Go.RowKit Go.Proofs.YtoljjgabgdifbaaW.PrintWords Go.Proofs.YtoljjgabgdifbaaW.PrintLast
set_option linter.unusedVariables false
set_option linter.unusedSimpArgs false

theorem pad_step (x : ByteArray) (h : x.size < 64) : pad (x ++ ⟨#[0]⟩) = pad x := by
  have e : 64 - x.size = (64 - (x ++ (⟨#[0]⟩ : ByteArray)).size) + 1 := by
    rw [ByteArray.size_append]
    show 64 - x.size = 64 - (x.size + 1) + 1
    omega
  unfold pad
  rw [e]
  apply ByteArray.ext
  simp only [ByteArray.data_append, Lib.repeatL, Array.append_assoc]
  congr 1
  apply Array.ext'
  simp
theorem pad_full (x : ByteArray) (h : x.size = 64) : pad x = x := by
  unfold pad
  rw [h]
  apply ByteArray.ext
  simp [Lib.repeatL]
theorem ext_first (s : ByteArray) (n : Nat) (h : n + 64 < s.size) : (s.extract n s.size).extract 0 64 = s.extract n (n + 64) := by
  apply ByteArray.ext
  simp [ByteArray.data_extract, Array.extract_extract]
  congr 1
  omega
theorem ext_rest (s : ByteArray) (n : Nat) (h : n + 64 < s.size) : (s.extract n s.size).extract 64 (s.extract n s.size).size = s.extract (n + 64) s.size := by
  apply ByteArray.ext
  simp [ByteArray.data_extract, Array.extract_extract, ByteArray.size_extract]
  congr 1
  omega
theorem digH_more (h : List Int) (s : ByteArray) (n : Nat) (hl : n + 64 < s.size) (hs : s.size ≤ 140737488355328) : digH h (s.extract n s.size) (n : Int) = digH (takeL h (s.extract n (n + 64)) ((n : Int) + 64) false) (s.extract (n + 64) s.size) ((n : Int) + 64) := by
  have e : IntKind.u64.wrap ((n : Int) + 64) = (n : Int) + 64 := by simp [IntKind.wrap, IntKind.bits, IntKind.signed]; omega
  rw [digH, if_pos (by rw [ByteArray.size_extract]; omega), ext_first s n hl, ext_rest s n hl, e]
theorem digH_last (h : List Int) (s : ByteArray) (n : Nat) (hn : n ≤ s.size) (hl : ¬ n + 64 < s.size) (hs : s.size ≤ 140737488355328) : digH h (s.extract n s.size) (n : Int) = takeL h (pad (s.extract n s.size)) (s.size : Int) true := by
  have z : (s.extract n s.size).size = s.size - n := by rw [ByteArray.size_extract]; omega
  have e : IntKind.u64.wrap ((n : Int) + ((s.size - n : Nat) : Int)) = (s.size : Int) := by simp [IntKind.wrap, IntKind.bits, IntKind.signed]; omega
  rw [digH, if_neg (by rw [z]; omega), z, e]
theorem bits_range (x y : Int) : 0 ≤ Go.bits .xor .u32 x y ∧ Go.bits .xor .u32 x y < 4294967296 := by
  show 0 ≤ IntKind.u32.wrap _ ∧ IntKind.u32.wrap _ < _
  rw [IntKind.wrap_u32]
  omega
theorem takeL_range (h : List Int) (s : ByteArray) (n : Int) (last : Bool) (i : Nat) : 0 ≤ (takeL h s n last).getD i 0 ∧ (takeL h s n last).getD i 0 < 4294967296 := by
  unfold takeL
  generalize rounds (pm s 16) (initV h n last) 10 = v
  by_cases c : i < 8
  · have e : (finL h v 8).getD i 0 = Go.bits .xor .u32 (h.getD i 0) (Go.bits .xor .u32 (v.getD i 0) (v.getD (i + 8) 0)) := by
      simp [finL, List.getD_eq_getElem?_getD, c]
    rw [e]
    exact bits_range _ _
  · rw [List.getD_eq_getElem?_getD, List.getElem?_eq_none (by rw [finL_len]; omega)]
    decide
/-- What stands while the digest's bytes are written; the eight numbers still lie there. -/
structure D3 (w0 w : World) (go : Nat) (R : List Int) (k : Nat) : Prop where
  two : D2 w0 w go R k
  b0 : Blk w w0.heap.size 76 (nums .u32 R).toArray
theorem D1.start3 {w0 w : World} {R : List Int} (X : D1 w0 w R) : D3 w0 (w.alloc (.cells (nums .u8 (outL R 0)).toArray 29)) w.heap.size R 0 := ⟨X.start, X.b0.alloc _⟩
theorem D3.step {w0 w : World} {go : Nat} {R : List Int} {k : Nat} (X : D3 w0 w go R k) (hk : k < 32) : D3 w0 (w.setCell ⟨go, k, none⟩ (.int .u8 (outAt R k))) go R (k + 1) :=
  ⟨X.two.step hk, X.b0.far (by have := X.two.lt; simp; omega) _⟩

set_option maxRecDepth 100000 in
set_option maxHeartbeats 20000000 in
theorem rdigest_calls (h0 : List Int) (s : ByteArray) (w : World) (hh : h0.length = 8) (hs : s.size ≤ 140737488355328) :
    Calls Try.prog 52 #[.agg (nums .u32 h0).toArray, .string s] w fun e w' => e = .returned (.agg (nums .u8 (outL (digH h0 s 0) 32)).toArray) ∧ Below w.heap.size w w' := by
  have X0 : D1 w ((w.alloc (.cells (nums .u32 h0).toArray 76)).alloc (.cells (nums .u8 (outL [] 0)).toArray 29)) h0 :=
    ⟨((Below.refl w.heap.size w).alloc (Nat.le_refl _) _).alloc (by rw [sz]; omega) _, (Blk.new w 76 _).alloc _, by have z := Blk.new (w.alloc (.cells (nums .u32 h0).toArray 76)) 29 (nums .u8 (outL [] 0)).toArray; rw [sz] at z; exact z⟩
  generalize hw0 : ((w.alloc (.cells (nums .u32 h0).toArray 76)).alloc (.cells (nums .u8 (outL [] 0)).toArray 29)) = w0 at X0
  have HW0 := Aside0.mk hw0
  have X0 := Aside0.mk X0
  clear hw0
  obtain ⟨R, hR⟩ : ∃ R, R = digH h0 s 0 := ⟨_, rfl⟩
  rw [← hR]
  have HH0 := Aside0.mk hh
  have HR0 : Aside0 (R = digH h0 (s.extract 0 s.size) ((0 : Nat) : Int)) := ⟨by rw [hR]; congr 1; apply ByteArray.ext; simp [ByteArray.data_extract]⟩
  have HS := Aside0.mk hs
  clear hh hR hs
  go_enter Try.func52, Try.ntmps52
  go_wp2
  rw [show ((w.alloc (.cells (nums .u32 h0).toArray 76)).alloc (.cells #[.int .u8 0, .int .u8 0, .int .u8 0, .int .u8 0, .int .u8 0, .int .u8 0, .int .u8 0, .int .u8 0, .int .u8 0, .int .u8 0, .int .u8 0, .int .u8 0, .int .u8 0, .int .u8 0, .int .u8 0, .int .u8 0, .int .u8 0, .int .u8 0, .int .u8 0, .int .u8 0, .int .u8 0, .int .u8 0, .int .u8 0, .int .u8 0, .int .u8 0, .int .u8 0, .int .u8 0, .int .u8 0, .int .u8 0, .int .u8 0, .int .u8 0, .int .u8 0] 29)) = w0 from HW0.out]
  go_loopg [5] (s.size + 1) (fun gk v5 wl => ∃ (h : List Int) (n : Nat), v5 = .int .i64 n ∧ Aside0 (gk = s.size + 1 - n) ∧ Aside0 (n ≤ s.size) ∧ Aside0 (h.length = 8) ∧ Aside0 (R = digH h (s.extract n s.size) (n : Int)) ∧ Aside0 (D1 w wl h))
  case atStart => exact ⟨h0, 0, rfl, ⟨rfl⟩, ⟨Nat.zero_le _⟩, HH0, HR0, X0⟩
  case round =>
    clear X0 HW0 HH0 HR0
    obtain ⟨h, n, rfl, hk, hn, HH, HR, X⟩ := hrel
    have hs := HS.out
    have hn' := hn.out
    have en : IntKind.i64.wrap ((n : Int) + 64) = (n : Int) + 64 := IntWalk.i64_in _ (by omega)
    by_cases hlt : n + 64 < s.size
    · have hb1 := eq_false (show ¬ (s.size : Int) ≤ (n : Int) + 64 by omega)
      have hb2 := eq_true (show (n : Int) + 64 ≤ (s.size : Int) by omega)
      have hb3 := eq_true (show (0 : Int) ≤ (n : Int) by omega)
      have hb4 := eq_true (show (n : Int) ≤ (n : Int) + 64 by omega)
      have hb5 : ((n : Int) + 64).toNat = n + 64 := by omega
      have eu : IntKind.u64.wrap ((n : Int) + 64) = (n : Int) + 64 := by simp [IntKind.wrap, IntKind.bits, IntKind.signed]; omega
      have HE : (s.extract n (n + 64)).size = 64 := by rw [ByteArray.size_extract]; omega
      have TC := Aside0.mk (fun W => rtake_calls h (s.extract n (n + 64)) ((n : Int) + 64) false W HH.out HE (by omega) (by omega))
      clear HE
      go_wp2_with (first | (refine wpList_load_row rfl 76 (.tmp 2) rfl w.heap.size rfl 76 _ (0, 0) _ X.out.b0 Try.underlying76 rfl (by rw [List.size_toArray, nums_length, HH.out]; kernel_rfl) ?_) | ((with_reducible refine (TC.out _).mono ?_); rintro e w3 ⟨rfl, hb⟩; have XB := Aside0.mk (X.out.far2 hb); clear hb) | (refine wpList_store_row rfl 76 (.tmp 2) (.tmp 39) rfl w.heap.size _ rfl rfl 76 _ XB.out.b0 (by rw [List.size_toArray, nums_length, takeL_len]; kernel_rfl) (by rw [List.size_toArray, nums_length, HH.out, List.size_toArray, nums_length, takeL_len]) (nums_all _) ?_))
      have XS := Aside0.mk (XB.out.set_ (h' := takeL h (s.extract n (n + 64)) ((n : Int) + 64) false))
      go_roundg (s.size + 1 - (n + 64))
      case measure => have := hk.out; omega
      case rel =>
        have e := HR.out
        rw [digH_more h s n hlt hs] at e
        exact ⟨takeL h (s.extract n (n + 64)) ((n : Int) + 64) false, n + 64, by push_cast; rfl, ⟨rfl⟩, ⟨by omega⟩, ⟨takeL_len _ _ _ _⟩, ⟨by push_cast; exact e⟩, XS⟩
    · have hb1 := eq_true (show (s.size : Int) ≤ (n : Int) + 64 by omega)
      have hb2 := eq_true (show (n : Int) ≤ (s.size : Int) by omega)
      have hb3 := eq_true (show (0 : Int) ≤ (n : Int) by omega)
      have eu : IntKind.u64.wrap (s.size : Int) = (s.size : Int) := by simp [IntKind.wrap, IntKind.bits, IntKind.signed]; omega
      have HX : Aside0 ((s.extract n s.size).size ≤ 64) := ⟨by rw [ByteArray.size_extract]; omega⟩
      have HT : Aside0 (R = takeL h (pad (s.extract n s.size)) (s.size : Int) true) := ⟨by rw [HR.out]; exact digH_last h s n hn' hlt hs⟩
      clear HR hk
      go_wp2_with fail
      generalize s.extract n s.size = b at HX HT ⊢
      go_loopg [8] (64 - b.size) (fun gk v8 wl => ∃ x : ByteArray, v8 = .string x ∧ Aside0 (gk = 64 - x.size) ∧ Aside0 (x.size ≤ 64) ∧ Aside0 (pad x = pad b) ∧ Aside0 (D1 w wl h))
      case atStart => exact ⟨b, rfl, ⟨rfl⟩, HX, ⟨rfl⟩, X⟩
      case round =>
        clear X HX
        obtain ⟨x, rfl, hk, hx, HP, X⟩ := hrel
        have hx' := hx.out
        by_cases x64 : x.size < 64
        · have c1 := eq_true (show (x.size : Int) < 64 by omega)
          have c2 := eq_false (show ¬ 9223372036854775807 < x.size + 1 by omega)
          have c3 := eq_true (show x.size + 1 ≤ 9223372036854775807 by omega)
          have e1 : (x ++ (⟨#[0]⟩ : ByteArray)).size = x.size + 1 := by rw [ByteArray.size_append]; rfl
          go_wp2_with fail
          go_roundg (64 - (x.size + 1))
          case measure => have := hk.out; omega
          case rel => exact ⟨x ++ ⟨#[0]⟩, rfl, ⟨by rw [e1]⟩, ⟨by omega⟩, ⟨by rw [pad_step x x64]; exact HP.out⟩, X⟩
        · have c1 := eq_false (show ¬ (x.size : Int) < 64 by omega)
          have c2 : x.size = 64 := by omega
          have c3 := HP.out
          rw [pad_full x c2] at c3
          rw [← c3] at HT
          have TC := Aside0.mk (fun W => rtake_calls h x (s.size : Int) true W HH.out c2 (by omega) (by omega))
          rw [← HT.out] at TC
          have LR : Aside0 (R.length = 8) := ⟨by rw [HT.out]; exact takeL_len _ _ _ _⟩
          have RR : Aside0 (∀ i, 0 ≤ R.getD i 0 ∧ R.getD i 0 < 4294967296) := ⟨fun i => by rw [HT.out]; exact takeL_range _ _ _ _ i⟩
          clear c2 c3 HP HT hk hx hx' x64
          go_wp2_with (first | (refine wpList_load_row rfl 76 (.tmp 2) rfl w.heap.size rfl 76 _ (0, 0) _ X.out.b0 Try.underlying76 rfl (by rw [List.size_toArray, nums_length, HH.out]; kernel_rfl) ?_) | ((with_reducible refine (TC.out _).mono ?_); rintro e w3 ⟨rfl, hb⟩; have XB := Aside0.mk (X.out.far2 hb); clear hb) | (refine wpList_store_row rfl 76 (.tmp 2) (.tmp 39) rfl w.heap.size _ rfl rfl 76 _ XB.out.b0 (by rw [List.size_toArray, nums_length, LR.out]; kernel_rfl) (by rw [List.size_toArray, nums_length, HH.out, List.size_toArray, nums_length, LR.out]) (nums_all _) ?_; have XS := XB.out.set_ (h' := R); generalize w3.setRow w.heap.size (nums .u32 R).toArray = wz at XS ⊢; have XS := Aside0.mk XS; clear XB X TC))
          have Y : Aside0 (D3 w (wz.alloc (.cells (nums .u8 (outL R 0)).toArray 29)) wz.heap.size R 0) := ⟨XS.out.start3⟩
          rw [show wz.alloc (.cells #[.int .u8 0, .int .u8 0, .int .u8 0, .int .u8 0, .int .u8 0, .int .u8 0, .int .u8 0, .int .u8 0, .int .u8 0, .int .u8 0, .int .u8 0, .int .u8 0, .int .u8 0, .int .u8 0, .int .u8 0, .int .u8 0, .int .u8 0, .int .u8 0, .int .u8 0, .int .u8 0, .int .u8 0, .int .u8 0, .int .u8 0, .int .u8 0, .int .u8 0, .int .u8 0, .int .u8 0, .int .u8 0, .int .u8 0, .int .u8 0, .int .u8 0, .int .u8 0] 29) = wz.alloc (.cells (nums .u8 (outL R 0)).toArray 29) from rfl]
          generalize wz.alloc (.cells (nums .u8 (outL R 0)).toArray 29) = wy at Y ⊢
          generalize wz.heap.size = go at Y ⊢
          clear XS
          go_loopg [10] 32 (fun gk v10 wk => ∃ i : Nat, v10 = .int .i64 i ∧ Aside0 (i + gk = 32) ∧ Aside0 (D3 w wk go R i))
          case atStart => exact ⟨0, rfl, ⟨rfl⟩, Y⟩
          case round =>
            clear Y
            obtain ⟨i, rfl, hk, Y⟩ := hrel
            by_cases i32 : i < 32
            · have b1 := eq_true (show (i : Int) < 32 by omega)
              have qh : wr.cell? ⟨w.heap.size, i / 4, none⟩ = some (.int .u32 (R.getD (i / 4) 0)) := (Y.out.b0.cell (i / 4)).trans (nums_get (by rw [LR.out]; omega))
              have d1 : IntKind.i64.wrap ((i : Int).tdiv 4) = ((i / 4 : Nat) : Int) := by
                rw [Int.tdiv_eq_ediv_of_nonneg (by omega), IntWalk.i64_in _ (by omega)]
                omega
              have d2 : IntKind.i64.wrap ((i : Int).tmod 4) = ((i % 4 : Nat) : Int) := by
                rw [Int.tmod_eq_emod_of_nonneg (by omega), IntWalk.i64_in _ (by omega)]
                omega
              have d3 : (i : Int).tmod 4 = ((i % 4 : Nat) : Int) := by
                rw [Int.tmod_eq_emod_of_nonneg (by omega)]
                omega
              have d4 := eq_true (show ((i / 4 : Nat) : Int) < 8 by omega)
              have RX := RR.out (i / 4)
              have HO : Aside0 (outAt R i = R.getD (i / 4) 0 / 2 ^ (8 * (i % 4)) % 256) := ⟨rfl⟩
              generalize R.getD (i / 4) 0 = x at qh RX HO
              have HM := Aside0.mk (show i % 4 < 4 by omega)
              have RX := Aside0.mk RX
              have d5 := eq_true (show (i : Int) / 4 < 8 by omega)
              have d6 := eq_true (show (0 : Int) ≤ (i : Int) / 4 by omega)
              go_wp2_with fail
              go_loopg [11, 12] (i % 4) (fun gj v11 v12 wi => ∃ (j : Nat) (y : Int), v11 = .int .u32 y ∧ v12 = .int .i64 j ∧ Aside0 (j + gj = i % 4) ∧ Aside0 (y = x / 2 ^ (8 * j) ∧ 0 ≤ y ∧ y < 4294967296) ∧ Aside0 (D3 w wi go R i))
              case atStart => exact ⟨0, x, rfl, rfl, ⟨by omega⟩, ⟨by simpa using RX.out⟩, Y⟩
              case round =>
                clear Y
                obtain ⟨j, y, rfl, rfl, hj, HY, Y⟩ := hrel
                obtain ⟨ey, y0, y1⟩ := HY.out
                by_cases jm : j < i % 4
                · have g1 := eq_true (show (j : Int) < ((i % 4 : Nat) : Int) by omega)
                  have g2 := eq_true (show (j : Int) < (i : Int) % 4 by omega)
                  have g3 : IntKind.u32.wrap (y.tdiv 256) = y / 256 := by
                    rw [Int.tdiv_eq_ediv_of_nonneg y0, IntKind.wrap_u32]
                    omega
                  clear ey
                  go_wp2_with fail
                  go_roundg (i % 4 - j - 1)
                  case measure => have := hj.out; omega
                  case rel =>
                    refine ⟨j + 1, y / 256, rfl, by go_num, ⟨by have := hj.out; omega⟩, ⟨?_, by omega, by omega⟩, Y⟩
                    rw [HY.out.1, Int.ediv_ediv_of_nonneg (Int.pow_nonneg (by decide))]
                    rw [show 8 * (j + 1) = 8 * j + 8 by omega, Int.pow_add]
                    rfl
                · obtain rfl : j = i % 4 := by have := hj.out; omega
                  have g1 := eq_false (show ¬ (((i % 4 : Nat) : Int) < (i : Int) % 4) by omega)
                  have YS := Aside0.mk (Y.out.step i32)
                  have e1 : y % 256 = outAt R i := by rw [HO.out, ey]
                  have f1 := Y.out.two.b2.frozen i
                  have q1 : wr.cell? ⟨go, i, none⟩ = some (.int .u8 ((outL R i).getD i 0)) := (Y.out.two.b2.cell i).trans (nums_get8 (by rw [outL_len]; omega))
                  clear ey jm
                  go_wp2_with fail
                  go_roundg (31 - i)
                  case measure => have := hk.out; omega
                  case rel =>
                    exact ⟨i + 1, by go_num, ⟨by have := hk.out; omega⟩, YS⟩
            · obtain rfl : i = 32 := by have := hk.out; omega
              clear i32 hk
              have Z := Y.out.two
              clear Y
              have b2 := Aside0.mk Z.b2
              have b1 := Aside0.mk Z.b1
              go_wp2_with (first | (refine wpList_load_row rfl 29 (.tmp 9) rfl go rfl 29 _ (0, 0) _ b2.out Try.underlying29 rfl (by rw [List.size_toArray, nums_length, outL_len]; kernel_rfl) ?_) | (refine wpList_store_row rfl 29 (.tmp 4) (.tmp 63) rfl (w.heap.size + 1) _ rfl rfl 29 _ b1.out (by rw [List.size_toArray, nums_length, outL_len]; kernel_rfl) (by rw [List.size_toArray, nums_length, outL_len, List.size_toArray, nums_length, outL_len]) (nums_all8 _) ?_))
              exact bodyPost_ret (results_cell_row (p := 4) (ty := 29) rfl _ _ (w.heap.size + 1) 29 _ (0, 0) _ rfl (Z.b1.setRow_ _) Try.underlying29 rfl (by rw [List.size_toArray, nums_length, outL_len]; kernel_rfl)) rfl ⟨rfl, below_setRow' Z.below (by omega) _⟩

theorem joined_one (s : ByteArray) (hs : s.size ≤ 140737488355328) : hibernacleref02_joined.f 2 [s] = some s := by
  have e : (⟨#[]⟩ : ByteArray) ++ s = s := by apply ByteArray.ext; simp
  have z : rdOf ByteArray.empty [s] 0 = s := rfl
  have z0 : (⟨#[]⟩ : ByteArray).size = 0 := rfl
  unfold hibernacleref02_joined.f
  rw [hibernacleref02_joined.l0, if_pos (by simp), if_pos (by omega), z, z0, if_pos (by omega), hibernacleref02_joined.l0, e]
  rw [if_neg]
  rw [show wrap64 (0 + 1) = 1 from by decide +kernel]
  simp
set_option maxRecDepth 100000 in
set_option maxHeartbeats 20000000 in
theorem rsum_calls (bk o c : Nat) (s : ByteArray) (w : World) (hcell : w.cell? ⟨bk, o, none⟩ = some (.string s)) (hbk : bk < w.heap.size) (hs : s.size ≤ 140737488355328) (hc : 1 ≤ c) :
    Calls Try.prog 38 #[.slice (some ⟨bk, o, none⟩) 1 c] w fun e w' => e = .returned (.agg (nums .u8 (sumL s)).toArray) ∧ Below w.heap.size w w' := by
  have HC := Aside0.mk hcell
  have HS := Aside0.mk hs
  clear hcell
  have B1 := Blk.new w 29 (nums .u8 (outL [] 0)).toArray
  have W1 := (Below.refl w.heap.size w).alloc (Nat.le_refl _) (.cells (nums .u8 (outL [] 0)).toArray 29)
  generalize hw1 : (w.alloc (.cells (nums .u8 (outL [] 0)).toArray 29)) = w1 at B1 W1
  have HW1 := Aside0.mk hw1
  have B1 := Aside0.mk B1
  have W1 := Aside0.mk W1
  clear hw1
  go_enter Try.func38, Try.ntmps38
  go_wp2_with (rw [show (w.alloc (.cells #[.int .u8 0, .int .u8 0, .int .u8 0, .int .u8 0, .int .u8 0, .int .u8 0, .int .u8 0, .int .u8 0, .int .u8 0, .int .u8 0, .int .u8 0, .int .u8 0, .int .u8 0, .int .u8 0, .int .u8 0, .int .u8 0, .int .u8 0, .int .u8 0, .int .u8 0, .int .u8 0, .int .u8 0, .int .u8 0, .int .u8 0, .int .u8 0, .int .u8 0, .int .u8 0, .int .u8 0, .int .u8 0, .int .u8 0, .int .u8 0, .int .u8 0, .int .u8 0] 29)) = w1 from HW1.out]; (with_reducible refine (reight_calls _).mono ?_); rintro e w' ⟨rfl, hb⟩; have BE := Aside0.mk hb; clear hb)
  have B2 := Blk.new w' 76 (nums .u32 sumH).toArray
  have G2 := (B1.out.below BE.out B1.out.lt).alloc (.cells (nums .u32 sumH).toArray 76)
  have W2 := (below_then W1.out (by have := W1.out.size; omega) BE.out).alloc (by have := W1.out.size; have := BE.out.size; omega) (.cells (nums .u32 sumH).toArray 76)
  rw [show w'.alloc (.cells #[.int .u32 (Go.bits .xor .u32 1779033703 16842784), .int .u32 3144134277, .int .u32 1013904242, .int .u32 2773480762, .int .u32 1359893119, .int .u32 2600822924, .int .u32 528734635, .int .u32 1541459225] 76) = w'.alloc (.cells (nums .u32 sumH).toArray 76) from rfl]
  generalize w'.alloc (.cells (nums .u32 sumH).toArray 76) = w2 at B2 G2 W2 ⊢
  generalize w'.heap.size = g at B2 ⊢
  have B2 := Aside0.mk B2
  have B1 := Aside0.mk G2
  have W2 := Aside0.mk W2
  clear HW1 W1 BE G2
  have HJ : Aside0 (Calls Try.prog 53 #[.slice (some ⟨bk, o, none⟩) 1 c] w2.drew fun e w' => e = .returned (.string s) ∧ Below w2.drew.heap.size w2.drew w') := by
    have hr : Kd.C Kd.string w2.drew (some ⟨bk, o, none⟩) [s].length [s] := by
      refine Kd.C_of_reads (d := ByteArray.empty) ⟨rfl, by simp, fun _ => ⟨_, rfl, fun j hj => ?_⟩⟩
      obtain rfl : j = 0 := by simpa using hj
      exact (W2.out.cell (p := ⟨bk, o, none⟩) hbk).trans HC.out
    refine ⟨(hibernacleref02_joined.calls 2 (some ⟨bk, o, none⟩) c [s] s w2.drew hr hc (joined_one s hs)).mono fun e w' ⟨he, hd⟩ => ⟨he, hd.below⟩⟩
  refine start_ (n := 5) (S := fun w' => Blk w' g 76 (nums .u32 sumH).toArray) (ds := [4]) #[false, false, false, false, false] (by kernel_rfl) rfl rfl (B2.out.drew) (fun hHeld => ?_)
  refine pure_ (i := 1) (N := some 10) (v := ?_) (a' := ?_) #[false, true, false, false, false] rfl rfl (by kernel_rfl) (fun _ _ _ h => h) (Or.inl ⟨by rfl, ?_⟩) ?_ ?_
  rotate_left
  · intro w'
    go_simp
    with_reducible rfl
  rotate_left
  · simp only [Act.put, List.setIfInBounds_toArray, List.set_cons_zero, List.set_cons_succ, i64_w, i32_w]
    rfl
  refine take_ (i := 0) (N := some 9) (v := ?_) (a' := ?_) #[true, true, false, false, false] rfl rfl (by kernel_rfl) (fun _ _ _ h => h) (Or.inl ⟨by rfl, ?_⟩) hHeld ?_ ?_
  rotate_left
  · intro w' s0
    refine row_loads 76 (.tmp 3) ?_ g ?_ s0 Try.underlying76 ?_ ?_
    · rfl
    · rfl
    · rfl
    · rfl
  rotate_left
  · simp only [Act.put, List.setIfInBounds_toArray, List.set_cons_zero, List.set_cons_succ, i64_w, i32_w]
    rfl
  refine one_ (i := 2) (N := some 11) #[true, true, true, false, false] rfl rfl (by kernel_rfl) (by decide) (fun K hK => ?_)
  refine goes_ Try.func53 (by kernel_rfl) rfl #[.slice (some ⟨bk, o, none⟩) 1 c] (by rfl) rfl rfl (by simp only [List.map_toArray, List.map_cons, List.map_nil]; rfl) ?_
  with_reducible refine (HJ.out).mono ?_
  rintro e w3 ⟨rfl, hb⟩
  refine ⟨_, rfl, ?_⟩
  have B3 := Aside0.mk (B2.out.drew.below hb B2.out.lt)
  have W3 := Aside0.mk (below_then (below_drew W2.out) (by have := W2.out.size; show w.heap.size ≤ w2.heap.size; omega) hb)
  have G3 := Aside0.mk (B1.out.drew.below hb B1.out.lt)
  clear hb
  refine hK.out _ _ (B3.out) (fun hHeld => ?_)
  clear hK K
  refine norm_ (a' := ?_) ?_ ?_
  rotate_left
  · show Act.put _ (some 11) _ = _
    simp only [Act.put, List.setIfInBounds_toArray, List.set_cons_zero, List.set_cons_succ, i64_w, i32_w]
    rfl
  refine one_ (i := 3) (N := some 12) #[true, true, true, true, false] rfl rfl (by kernel_rfl) (by decide) (fun K hK => ?_)
  refine goes_ Try.func52 (by kernel_rfl) rfl #[.agg (nums .u32 sumH).toArray, .string s] (by rfl) rfl rfl (by simp only [List.map_toArray, List.map_cons, List.map_nil]; rfl) ?_
  with_reducible refine (rdigest_calls sumH s w3 rfl HS.out).mono ?_
  rintro e w4 ⟨rfl, hb⟩
  refine ⟨_, rfl, ?_⟩
  have B4 := Aside0.mk (B3.out.below hb B3.out.lt)
  have W4 := Aside0.mk (below_then W3.out (by have := W3.out.size; omega) hb)
  have G4 := Aside0.mk (G3.out.below hb G3.out.lt)
  clear hb
  refine hK.out _ _ (B4.out) (fun hHeld => ?_)
  clear hK K
  refine norm_ (a' := ?_) ?_ ?_
  rotate_left
  · show Act.put _ (some 12) _ = _
    simp only [Act.put, List.setIfInBounds_toArray, List.set_cons_zero, List.set_cons_succ, i64_w, i32_w]
    rfl
  refine last_ (i := 4) (N := none) #[true, true, true, true, true] rfl rfl (by kernel_rfl) (by decide) (fun K hK => ?_)
  refine skip_ (w1 := w4.setRow w.heap.size (nums .u8 (sumL s)).toArray) (by rfl) rfl ?_ ?_
  · exact row_stores 29 _ _ rfl w.heap.size _ rfl rfl G4.out (by unfold sumL; rw [List.size_toArray, nums_length, outL_len]; kernel_rfl) (by unfold sumL; rw [List.size_toArray, nums_length, outL_len, List.size_toArray, nums_length, outL_len]) (nums_all8 _)
  refine hK.out _ _ ?_
  clear hK K
  refine done_ (by kernel_rfl) ?_

  clear hHeld
  go_wp2_with fail
  exact bodyPost_ret (results_cell_row (p := 2) (ty := 29) rfl _ _ w.heap.size 29 _ (0, 0) _ rfl (G4.out.setRow_ _) Try.underlying29 rfl (by unfold sumL; rw [List.size_toArray, nums_length, outL_len]; kernel_rfl)) rfl ⟨rfl, below_setRow' W4.out (Nat.le_refl _) _⟩
end Go.Proofs.Ytoljjgabgdifbaa.H
