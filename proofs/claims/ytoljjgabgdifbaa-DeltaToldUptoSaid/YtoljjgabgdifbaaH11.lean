/- Layer 35 of the program: what a delta's cells are. -/
import Derived.Test.YtoljjgabgdifbaaG
namespace Go.Proofs.Ytoljjgabgdifbaa.H
open Go.RowKit Go.Proofs.YtoljjgabgdifbaaW.PrintWords Go.Proofs.YtoljjgabgdifbaaW.PrintLast Go.Proofs.YtoljjgabgdifbaaW.PrintMore
set_option linter.unusedVariables false
set_option linter.unusedSimpArgs false

theorem list32 (L : List Int) (h : L.length = 32) : ∃ a0 a1 a2 a3 a4 a5 a6 a7 a8 a9 a10 a11 a12 a13 a14 a15 a16 a17 a18 a19 a20 a21 a22 a23 a24 a25 a26 a27 a28 a29 a30 a31 : Int, L = [a0, a1, a2, a3, a4, a5, a6, a7, a8, a9, a10, a11, a12, a13, a14, a15, a16, a17, a18, a19, a20, a21, a22, a23, a24, a25, a26, a27, a28, a29, a30, a31] := by
  rcases L with _ | ⟨a0, L⟩
  · simp at h
  rcases L with _ | ⟨a1, L⟩
  · simp at h
  rcases L with _ | ⟨a2, L⟩
  · simp at h
  rcases L with _ | ⟨a3, L⟩
  · simp at h
  rcases L with _ | ⟨a4, L⟩
  · simp at h
  rcases L with _ | ⟨a5, L⟩
  · simp at h
  rcases L with _ | ⟨a6, L⟩
  · simp at h
  rcases L with _ | ⟨a7, L⟩
  · simp at h
  rcases L with _ | ⟨a8, L⟩
  · simp at h
  rcases L with _ | ⟨a9, L⟩
  · simp at h
  rcases L with _ | ⟨a10, L⟩
  · simp at h
  rcases L with _ | ⟨a11, L⟩
  · simp at h
  rcases L with _ | ⟨a12, L⟩
  · simp at h
  rcases L with _ | ⟨a13, L⟩
  · simp at h
  rcases L with _ | ⟨a14, L⟩
  · simp at h
  rcases L with _ | ⟨a15, L⟩
  · simp at h
  rcases L with _ | ⟨a16, L⟩
  · simp at h
  rcases L with _ | ⟨a17, L⟩
  · simp at h
  rcases L with _ | ⟨a18, L⟩
  · simp at h
  rcases L with _ | ⟨a19, L⟩
  · simp at h
  rcases L with _ | ⟨a20, L⟩
  · simp at h
  rcases L with _ | ⟨a21, L⟩
  · simp at h
  rcases L with _ | ⟨a22, L⟩
  · simp at h
  rcases L with _ | ⟨a23, L⟩
  · simp at h
  rcases L with _ | ⟨a24, L⟩
  · simp at h
  rcases L with _ | ⟨a25, L⟩
  · simp at h
  rcases L with _ | ⟨a26, L⟩
  · simp at h
  rcases L with _ | ⟨a27, L⟩
  · simp at h
  rcases L with _ | ⟨a28, L⟩
  · simp at h
  rcases L with _ | ⟨a29, L⟩
  · simp at h
  rcases L with _ | ⟨a30, L⟩
  · simp at h
  rcases L with _ | ⟨a31, L⟩
  · simp at h
  rcases L with _ | ⟨x, L⟩
  · exact ⟨a0, a1, a2, a3, a4, a5, a6, a7, a8, a9, a10, a11, a12, a13, a14, a15, a16, a17, a18, a19, a20, a21, a22, a23, a24, a25, a26, a27, a28, a29, a30, a31, rfl⟩
  · simp only [List.length_cons] at h; omega

/-- A delta's cells. -/
def dArr (L : List Int) (v1 v2 : Value) (s : ByteArray) (M : List Int) : Array Value := (nums .u8 L ++ [v1, v2, .string s] ++ nums .u8 M).toArray
theorem dArr_size {L M : List Int} (hL : L.length = 32) (hM : M.length = 32) (v1 v2 : Value) (s : ByteArray) : (dArr L v1 v2 s M).size = 67 := by
  simp [dArr, nums, hL, hM]
set_option maxRecDepth 100000 in
theorem built_delta {L M : List Int} (hL : L.length = 32) (hM : M.length = 32) (A1 : Option Addr) (n1 c1 : Nat) (A2 : Option Addr) (n2 c2 : Nat) (s : ByteArray) :
    Try.prog.built 32 [(0, .agg (nums .u8 L).toArray), (1, .slice A1 n1 c1), (2, .slice A2 n2 c2), (3, .string s), (4, .agg (nums .u8 M).toArray)] = some (dArr L (.slice A1 n1 c1) (.slice A2 n2 c2) s M) := by
  obtain ⟨a0, a1, a2, a3, a4, a5, a6, a7, a8, a9, a10, a11, a12, a13, a14, a15, a16, a17, a18, a19, a20, a21, a22, a23, a24, a25, a26, a27, a28, a29, a30, a31, rfl⟩ := list32 L hL
  obtain ⟨b0, b1, b2, b3, b4, b5, b6, b7, b8, b9, b10, b11, b12, b13, b14, b15, b16, b17, b18, b19, b20, b21, b22, b23, b24, b25, b26, b27, b28, b29, b30, b31, rfl⟩ := list32 M hM
  kernel_rfl
end Go.Proofs.Ytoljjgabgdifbaa.H
