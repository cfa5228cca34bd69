/- The law WordBits over numbers alone: bit by bit, what is in both and what is in one alone make up what is in either, and both numbers sum; for every two int64s. -/
import Derived.Test.YtblianhdcnpgjaaPWordBitsx1
import Derived.Test.YtblianhdcnpgjaaNumA
namespace Go.Proofs.Ytblianhdcnpgjaa.Pure
open Go.RowKit Go.Proofs.Ytblianhdcnpgjaa.PWordBits Go.Proofs.YtblianhdcnpgjaaW.PrintWords Go.Proofs.YtblianhdcnpgjaaW.PrintLast
open Go.Proofs.Ytblianhdcnpgjaa.Num


theorem wInt (a : Int) : word_Int.f a = some (enc a) := by unfold word_Int.f; rw [word_enc]
theorem wIs (w : Int) (h0 : 0 ≤ w) (h : w ≤ 18446744073709551615) : word_IsInt.f w = some (w % 2 == 1) := by unfold word_IsInt.f; rw [and_one w h0 (by omega)]

theorem wNum (a : Int) : word_Num.f a = some (num a) := rfl
theorem wShifted (k : Nat) (a b : Int) (l : Bool) : word_shifted.f (k + 2) a b l = some (if l then (if b < 0 ∨ b > 62 then 0 else wrap64 (a * 2 ^ b.toNat)) else (if b < 0 ∨ b > 62 then a / 4611686018427387904 else a / 2 ^ b.toNat)) := by
  unfold word_shifted.f
  have hl : 0 ≤ b → ¬ b > 62 → shl .i64 a b = wrap64 (a * 2 ^ b.toNat) := by
    intro h0 h1
    have : min b.toNat IntKind.i64.bits = b.toNat := Nat.min_eq_left (show b.toNat ≤ 64 by omega)
    unfold shl; rw [this, i64w]
  have hr : 0 ≤ b → ¬ b > 62 → shr .i64 a b = a / 2 ^ b.toNat := by
    intro h0 h1
    have : min b.toNat IntKind.i64.bits = b.toNat := Nat.min_eq_left (show b.toNat ≤ 64 by omega)
    unfold shr; rw [this]
  by_cases h0 : b < 0
  · rw [if_pos h0]
    cases l <;> simp [word_shifted.j0, word_shifted.j1, h0]
  · rw [if_neg h0]
    by_cases h1 : b > 62
    · cases l <;> simp [word_shifted.j0, word_shifted.j1, h1]
    · have h2 : ¬ (b < 0 ∨ b > 62) := by omega
      have h3 : 0 ≤ b := by omega
      rw [decide_eq_false h1]
      cases l <;> simp only [word_shifted.j0, word_shifted.j1, if_neg h2, if_pos h3, hl h3 h1, hr h3 h1, if_false, if_true, Bool.false_eq_true]
theorem wDo (k : Nat) (op v w : Int) : word_Do.f (k + 3) op v w = some (doN op (num v) (num w)) := by
  unfold word_Do.f doN
  simp only [wNum, Option.bind_some, wInt, enc_wrap]
  by_cases h1 : op = 1; · simp [h1]
  rw [if_neg h1, if_neg h1]
  by_cases h2 : op = 2; · simp [h2]
  rw [if_neg h2, if_neg h2]
  by_cases h3 : op = 3; · simp [h3]
  rw [if_neg h3, if_neg h3]
  by_cases h4 : op = 4
  · rw [if_pos h4, if_pos h4]
    by_cases hb : num w = 0 <;> simp [hb, word_Do.j1]
  rw [if_neg h4, if_neg h4]
  by_cases h5 : op = 5
  · rw [if_pos h5, if_pos h5]
    by_cases hb : num w = 0 <;> simp [hb, word_Do.j1, wInt]
  rw [if_neg h5, if_neg h5]
  by_cases h6 : op = 6; · simp [h6]
  rw [if_neg h6, if_neg h6]
  by_cases h7 : op = 7; · simp [h7]
  rw [if_neg h7, if_neg h7]
  by_cases h8 : op = 8; · simp [h8]
  rw [if_neg h8, if_neg h8]
  by_cases h9 : op = 9
  · subst h9
    rw [if_pos rfl, if_pos rfl]
    simp only [word_Do.j0, beq_self_eq_true, if_true, wShifted, Option.bind_some, wInt]
    split
    · rfl
    · rw [enc_wrap]
  rw [if_neg h9, if_neg h9]
  by_cases h10 : op = 10
  · subst h10
    rw [if_pos rfl]
    simp [word_Do.j0, wShifted, wInt]
  rw [if_neg h10]
  have e10 : (op == 10) = false := by simpa using h10
  simp only [word_Do.j0, e10, Bool.false_eq_true, if_false]
  by_cases h11 : op = 11
  · rw [if_pos h11, if_pos h11]
    by_cases hlt : num v < num w <;> simp [hlt, wInt]
  · rw [if_neg h11, if_neg h11]

theorem WordBits : grapnellaw01_WordBits.Pure := by
  intro a b _ _
  refine ⟨3, ?_⟩
  unfold grapnellaw01_WordBits.f
  obtain ⟨A, O, X, h6, h7, h8, e1, e2⟩ := bits_all (cut a) (cut b)
  have e4 : word_IsInt.f (enc A) = some true := by rw [wIs _ (enc_ge _) (enc_le _), enc_odd]; rfl
  simp only [wInt, Option.bind_some, wDo 0, num_enc, h6, h7, h8, doN_1, e1, e2, e4, Int.add_zero, wrap_0, if_true]

end Go.Proofs.Ytblianhdcnpgjaa.Pure
