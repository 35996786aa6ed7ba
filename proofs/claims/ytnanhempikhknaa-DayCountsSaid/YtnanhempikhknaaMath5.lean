/- The minute of any text, by both packages: the same, and the text's own. -/
import Derived.Test.YtnanhempikhknaaMath4
namespace Go.Proofs.Ytnanhempikhknaa.Cal
open Go.RowKit Go.Proofs.Ytnanhempikhknaa.D Go.Proofs.YtnanhempikhknaaW.PrintWords Go.Proofs.YtnanhempikhknaaW.PrintLast

theorem sixteen {s : ByteArray} (h : s.size = 16) : ∃ c0 c1 c2 c3 c4 c5 c6 c7 c8 c9 c10 c11 c12 c13 c14 c15, s = ⟨#[c0, c1, c2, c3, c4, c5, c6, c7, c8, c9, c10, c11, c12, c13, c14, c15]⟩ := by
  obtain ⟨⟨l⟩⟩ := s
  have h' : l.length = 16 := h
  match l, h' with
  | [c0, c1, c2, c3, c4, c5, c6, c7, c8, c9, c10, c11, c12, c13, c14, c15], _ => exact ⟨c0, c1, c2, c3, c4, c5, c6, c7, c8, c9, c10, c11, c12, c13, c14, c15, rfl⟩

section
variable (c0 c1 c2 c3 c4 c5 c6 c7 c8 c9 c10 c11 c12 c13 c14 c15 : UInt8)

def FrmOK : Prop := dgt c0 ∧ dgt c1 ∧ dgt c2 ∧ dgt c3 ∧ c4 = 45 ∧ dgt c5 ∧ dgt c6 ∧ c7 = 45 ∧ dgt c8 ∧ dgt c9 ∧ c10 = 32 ∧ dgt c11 ∧ dgt c12 ∧ c13 = 58 ∧ dgt c14 ∧ dgt c15

theorem u8 {a : UInt8} {n : Nat} (h : (a.toNat : Int) = n) (hn : n < 256) : a = UInt8.ofNat n := by
  apply UInt8.toNat_inj.1
  rw [UInt8.toNat_ofNat']
  omega

theorem sep {a : UInt8} {f : Int} (h : (f = 48 ∧ 48 ≤ (a.toNat : Int) ∧ (a.toNat : Int) ≤ 57) ∨ (f ≠ 48 ∧ (a.toNat : Int) = f)) (n : Nat) (hf : f = n) (hne : f ≠ 48) (hn : n < 256) : a = UInt8.ofNat n := by
  rcases h with ⟨e, _⟩ | ⟨_, e⟩
  · exact absurd e hne
  · exact u8 (e.trans hf) hn
theorem dig {a : UInt8} (h : ((48 : Int) = 48 ∧ 48 ≤ (a.toNat : Int) ∧ (a.toNat : Int) ≤ 57) ∨ ((48 : Int) ≠ 48 ∧ (a.toNat : Int) = 48)) : dgt a := by
  rcases h with ⟨_, e⟩ | ⟨e, _⟩
  · exact e
  · exact absurd rfl e

theorem frm_of (h : ∀ i : Int, 0 ≤ i → i < 16 → OKat ⟨#[c0, c1, c2, c3, c4, c5, c6, c7, c8, c9, c10, c11, c12, c13, c14, c15]⟩ i) : FrmOK c0 c1 c2 c3 c4 c5 c6 c7 c8 c9 c10 c11 c12 c13 c14 c15 :=
  ⟨dig (h 0 (by omega) (by omega)), dig (h 1 (by omega) (by omega)), dig (h 2 (by omega) (by omega)), dig (h 3 (by omega) (by omega)),
   sep (f := 45) (h 4 (by omega) (by omega)) 45 rfl (by decide) (by decide), dig (h 5 (by omega) (by omega)), dig (h 6 (by omega) (by omega)),
   sep (f := 45) (h 7 (by omega) (by omega)) 45 rfl (by decide) (by decide), dig (h 8 (by omega) (by omega)), dig (h 9 (by omega) (by omega)),
   sep (f := 32) (h 10 (by omega) (by omega)) 32 rfl (by decide) (by decide), dig (h 11 (by omega) (by omega)), dig (h 12 (by omega) (by omega)),
   sep (f := 58) (h 13 (by omega) (by omega)) 58 rfl (by decide) (by decide), dig (h 14 (by omega) (by omega)), dig (h 15 (by omega) (by omega))⟩
theorem of_frm (h : FrmOK c0 c1 c2 c3 c4 c5 c6 c7 c8 c9 c10 c11 c12 c13 c14 c15) (i : Int) (h0 : 0 ≤ i) (h1 : i < 16) : OKat ⟨#[c0, c1, c2, c3, c4, c5, c6, c7, c8, c9, c10, c11, c12, c13, c14, c15]⟩ i := by
  obtain ⟨g0, g1, g2, g3, rfl, g5, g6, rfl, g8, g9, rfl, g11, g12, rfl, g14, g15⟩ := h
  rcases i16 h0 h1 with rfl | rfl | rfl | rfl | rfl | rfl | rfl | rfl | rfl | rfl | rfl | rfl | rfl | rfl | rfl | rfl
  · exact .inl ⟨rfl, g0⟩
  · exact .inl ⟨rfl, g1⟩
  · exact .inl ⟨rfl, g2⟩
  · exact .inl ⟨rfl, g3⟩
  · exact .inr ⟨by decide, rfl⟩
  · exact .inl ⟨rfl, g5⟩
  · exact .inl ⟨rfl, g6⟩
  · exact .inr ⟨by decide, rfl⟩
  · exact .inl ⟨rfl, g8⟩
  · exact .inl ⟨rfl, g9⟩
  · exact .inr ⟨by decide, rfl⟩
  · exact .inl ⟨rfl, g11⟩
  · exact .inl ⟨rfl, g12⟩
  · exact .inr ⟨by decide, rfl⟩
  · exact .inl ⟨rfl, g14⟩
  · exact .inl ⟨rfl, g15⟩

/-- the numbers that stand in a text -/
def nY : Int := v c0 * 1000 + v c1 * 100 + v c2 * 10 + v c3
def nn (a b : UInt8) : Int := v a * 10 + v b

theorem nn_bd {a b : UInt8} (ha : dgt a) (hb : dgt b) : 0 ≤ nn a b ∧ nn a b ≤ 99 := by unfold dgt at ha hb; unfold nn v; omega
theorem nY_bd {a b c d : UInt8} (ha : dgt a) (hb : dgt b) (hc : dgt c) (hd : dgt d) : 0 ≤ nY a b c d ∧ nY a b c d ≤ 9999 := by unfold dgt at ha hb hc hd; unfold nY v; omega

theorem Of_l0_end (h : FrmOK c0 c1 c2 c3 c4 c5 c6 c7 c8 c9 c10 c11 c12 c13 c14 c15) {k : Nat} (hk : 20 ≤ k) :
    day_Of.l0 (k + 1) ⟨#[c0, c1, c2, c3, c4, c5, c6, c7, c8, c9, c10, c11, c12, c13, c14, c15]⟩ 16 16 =
      (if nn c5 c6 - 1 < 0 ∨ nn c5 c6 - 1 > 11 ∨ nn c8 c9 - 1 < 0 ∨ nn c8 c9 - 1 ≥ mlen (nY c0 c1 c2 c3) (nn c5 c6 - 1) then some (0, false)
       else day_Of.j1 k ⟨#[c0, c1, c2, c3, c4, c5, c6, c7, c8, c9, c10, c11, c12, c13, c14, c15]⟩ (nY c0 c1 c2 c3) (nn c5 c6 - 1) (nn c8 c9 - 1) false) := by
  obtain ⟨g0, g1, g2, g3, rfl, g5, g6, rfl, g8, g9, rfl, g11, g12, rfl, g14, g15⟩ := h
  have b1 := nY_bd g0 g1 g2 g3
  have b2 := nn_bd g5 g6
  have b3 := nn_bd g8 g9
  generalize hs : (⟨#[c0, c1, c2, c3, 45, c5, c6, 45, c8, c9, 32, c11, c12, 58, c14, c15]⟩ : ByteArray) = s
  have x1 : s.extract 0 4 = ⟨#[c0, c1, c2, c3]⟩ := by subst hs; rfl
  have x2 : s.extract 5 7 = ⟨#[c5, c6]⟩ := by subst hs; rfl
  have x3 : s.extract 8 10 = ⟨#[c8, c9]⟩ := by subst hs; rfl
  have sz : ((s.size : Nat) : Int) = 16 := by subst hs; rfl
  simp only [day_Of.l0]
  rw [if_neg (by omega), if_pos (by omega), if_pos (by omega), x1, x2, x3, number4 _ _ _ _ g0 g1 g2 g3 (by omega), number2 _ _ g5 g6 (by omega), number2 _ _ g8 g9 (by omega)]
  simp only [Option.bind_some]
  rw [if_pos (by omega), if_pos (by omega), if_pos (by omega), if_pos (by omega)]
  change _ = ite _ _ _
  rw [show v c5 * 10 + v c6 = nn c5 c6 from rfl, show v c8 * 10 + v c9 = nn c8 c9 from rfl, show v c0 * 1000 + v c1 * 100 + v c2 * 10 + v c3 = nY c0 c1 c2 c3 from rfl]
  rw [w64 (x := nn c5 c6 - 1) (by omega) (by omega), w64 (x := nn c8 c9 - 1) (by omega) (by omega)]
  obtain ⟨k, rfl⟩ : ∃ j, k = j + 1 := ⟨k - 1, by omega⟩
  have jt : ∀ a b c, day_Of.j1 (k + 1) s a b c true = some (0, false) := fun a b c => by simp only [day_Of.j1]; rw [if_pos trivial]
  rw [jt]
  by_cases h1 : nn c5 c6 - 1 < 0
  · rw [if_pos h1, if_pos (.inl h1)]
  · rw [if_neg h1]
    by_cases h2 : nn c5 c6 - 1 > 11
    · rw [if_pos h2, if_pos (.inr (.inl h2))]
    · rw [if_neg h2]
      by_cases h3 : nn c8 c9 - 1 < 0
      · rw [if_pos h3, if_pos (.inr (.inr (.inl h3)))]
      · rw [if_neg h3, length_eq (by omega) (by omega) (by omega) (by omega)]
        simp only [Option.bind_some]
        by_cases h4 : nn c8 c9 - 1 ≥ mlen (nY c0 c1 c2 c3) (nn c5 c6 - 1)
        · rw [decide_eq_true h4, jt, if_pos (.inr (.inr (.inr h4)))]
        · rw [decide_eq_false h4, if_neg (by omega)]

theorem s_of (h : FrmOK c0 c1 c2 c3 c4 c5 c6 c7 c8 c9 c10 c11 c12 c13 c14 c15) (m r i : Int) (hm : m + 1 = nn c5 c6) (hr : r + 1 = nn c8 c9) (hi : i = 60 * nn c11 c12 + nn c14 c15) (hM : nn c14 c15 ≤ 59) :
    strOfNums (txt (nY c0 c1 c2 c3) m r i) = ⟨#[c0, c1, c2, c3, c4, c5, c6, c7, c8, c9, c10, c11, c12, c13, c14, c15]⟩ := by
  obtain ⟨g0, g1, g2, g3, rfl, g5, g6, rfl, g8, g9, rfl, g11, g12, rfl, g14, g15⟩ := h
  have bh := nn_bd g11 g12
  have bm := nn_bd g14 g15
  have e1 : i / 60 = nn c11 c12 := by omega
  have e2 : i % 60 = nn c14 c15 := by omega
  unfold txt
  rw [hm, hr, e1, e2]
  have u : ∀ (c : UInt8) (n : Int), n = c.toNat → UInt8.ofNat n.toNat = c := fun c n h => by
    subst h
    simp
  have k2 : ∀ a b : UInt8, dgt a → dgt b → d2 (nn a b) = [(a.toNat : Int), (b.toNat : Int)] := fun a b ha hb => by
    unfold dgt at ha hb
    unfold d2 nn v
    congr 1
    · omega
    · congr 1
      omega
  have k4 : d4 (nY c0 c1 c2 c3) = [(c0.toNat : Int), (c1.toNat : Int), (c2.toNat : Int), (c3.toNat : Int)] := by
    unfold dgt at g0 g1 g2 g3
    unfold d4 nY v
    congr 1
    · omega
    · congr 1
      · omega
      · congr 1
        · omega
        · congr 1
          omega
  rw [k2 _ _ g5 g6, k2 _ _ g8 g9, k2 _ _ g11 g12, k2 _ _ g14 g15, k4]
  apply ba_ext
  simp [strOfNums]

end

end Go.Proofs.Ytnanhempikhknaa.Cal
