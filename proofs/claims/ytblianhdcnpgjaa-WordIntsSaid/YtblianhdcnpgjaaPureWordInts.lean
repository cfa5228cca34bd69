/- The law WordInts over numbers alone: the words and the numbers of program and reference agree, for every int64 and every 64-bit word. -/
import Derived.Test.YtblianhdcnpgjaaPWordIntsx1
import Derived.Test.YtblianhdcnpgjaaNumA
namespace Go.Proofs.Ytblianhdcnpgjaa.Pure
open Go.RowKit Go.Proofs.Ytblianhdcnpgjaa.PWordInts Go.Proofs.YtblianhdcnpgjaaW.PrintWords Go.Proofs.YtblianhdcnpgjaaW.PrintLast
open Go.Proofs.Ytblianhdcnpgjaa.Num


theorem wInt (a : Int) : word_Int.f a = some (enc a) := by unfold word_Int.f; rw [word_enc]
theorem rCut (n : Int) (h0 : -9223372036854775808 ≤ n) (h : n ≤ 9223372036854775807) : grapnelref01_cut.f n = some (cut n) := ref_cut n h0 h
theorem rInt (n : Int) (h0 : -9223372036854775808 ≤ n) (h : n ≤ 9223372036854775807) : grapnelref01_Int.f n = some (enc n) := by
  unfold grapnelref01_Int.f
  rw [rCut n h0 h]
  exact (ref_enc (cut n)).trans (by rw [enc_cut])
theorem wNum (a : Int) : word_Num.f a = some (num a) := rfl
theorem rNum (w : Int) (h0 : 0 ≤ w) (h : w ≤ 18446744073709551615) : grapnelref01_Num.f w = some (num w) := ref_num w h0 h
theorem wIs (w : Int) (h0 : 0 ≤ w) (h : w ≤ 18446744073709551615) : word_IsInt.f w = some (w % 2 == 1) := by unfold word_IsInt.f; rw [and_one w h0 (by omega)]
theorem rIs (w : Int) (h0 : 0 ≤ w) : grapnelref01_IsInt.f w = some (w % 2 == 1) := by unfold grapnelref01_IsInt.f; rw [Int.tmod_eq_emod_of_nonneg h0]

theorem WordInts : grapnellaw01_WordInts.Pure := by
  intro n w hn hw
  obtain ⟨n0, n1⟩ := wf_i64 hn
  obtain ⟨w0, w1⟩ := wf_u64 hw
  unfold grapnellaw01_WordInts.f
  simp [wInt, rInt n n0 n1, wNum, rNum w w0 w1, wIs w w0 w1, rIs w w0]

end Go.Proofs.Ytblianhdcnpgjaa.Pure
