/- The law WordHeads over numbers alone: the words of headers and the tags and sizes of words of program and reference agree, for all ints and every 64-bit word. -/
import Derived.Test.YtblianhdcnpgjaaPWordHeadsx1
import Derived.Test.YtblianhdcnpgjaaNumA
namespace Go.Proofs.Ytblianhdcnpgjaa.Pure
open Go.RowKit Go.Proofs.Ytblianhdcnpgjaa.PWordHeads Go.Proofs.YtblianhdcnpgjaaW.PrintWords Go.Proofs.YtblianhdcnpgjaaW.PrintLast
open Go.Proofs.Ytblianhdcnpgjaa.Num


theorem wInt (a : Int) : word_Int.f a = some (enc a) := by unfold word_Int.f; rw [word_enc]
theorem rCut (n : Int) (h0 : -9223372036854775808 ≤ n) (h : n ≤ 9223372036854775807) : grapnelref01_cut.f n = some (cut n) := ref_cut n h0 h
theorem rInt (n : Int) (h0 : -9223372036854775808 ≤ n) (h : n ≤ 9223372036854775807) : grapnelref01_Int.f n = some (enc n) := by
  unfold grapnelref01_Int.f
  rw [rCut n h0 h]
  exact (ref_enc (cut n)).trans (by rw [enc_cut])
theorem wNum (a : Int) : word_Num.f a = some (num a) := rfl
theorem rNum (w : Int) (h0 : 0 ≤ w) (h : w ≤ 18446744073709551615) : grapnelref01_Num.f w = some (num w) := ref_num w h0 h
theorem wIs (w : Int) (h0 : 0 ≤ w) (h : w ≤ 18446744073709551615) : word_IsInt.f w = some (w % 2 == 1) := by unfold word_IsInt.f; rw [and_one w h0 (by omega)]
theorem rIs (w : Int) (h0 : 0 ≤ w) : grapnelref01_IsInt.f w = some (w % 2 == 1) := by unfold grapnelref01_IsInt.f; rw [Int.tmod_eq_emod_of_nonneg h0]

theorem wHead (t s : Int) : word_Head.f t s = if t < 0 then some 0 else if t > 255 then some 0 else if s < 0 then some 0 else if s > 2147483647 then some 0 else some (enc (256 * s + t)) := by
  unfold word_Head.f
  split
  · rfl
  · split
    · rfl
    · split
      · rfl
      · split
        · rfl
        · obtain ⟨m, rfl⟩ : ∃ m : Nat, s = m := ⟨s.toNat, by omega⟩
          obtain ⟨b, rfl⟩ : ∃ b : Nat, t = b := ⟨t.toNat, by omega⟩
          have : wrap64 ((m : Int) * 256) = ((256 * m : Nat) : Int) := by unfold wrap64; omega
          rw [this, or_head m b (by omega) (by omega), wInt]; rfl
theorem rHead (t s : Int) : grapnelref01_Head.f t s = if t < 0 then some 0 else if t > 255 then some 0 else if s < 0 then some 0 else if s > 2147483647 then some 0 else some (enc (256 * s + t)) := by
  unfold grapnelref01_Head.f
  split
  · rfl
  · split
    · rfl
    · split
      · rfl
      · split
        · rfl
        · have : wrap64 (wrap64 (256 * s) + t) = 256 * s + t := by unfold wrap64; omega
          rw [this, rInt _ (by omega) (by omega)]; rfl
/-- What both tell of a word: its tag and its size. -/
def tagOf (w : Int) : Int := if w % 2 = 1 then if num w < 0 then 0 else if num w > 549755813887 then 0 else num w % 256 else 0
def sizeOf (w : Int) : Int := if w % 2 = 1 then if num w < 0 then 0 else if num w > 549755813887 then 0 else num w / 256 else 0
theorem wParts (w : Int) (h0 : 0 ≤ w) (h : w ≤ 18446744073709551615) : word_parts.f w = some (tagOf w, sizeOf w) := by
  unfold word_parts.f tagOf sizeOf
  have b := num_bd w
  rw [wNum, wIs w h0 h]
  simp only [Option.bind_some, beq_iff_eq]
  by_cases h1 : w % 2 = 1
  · by_cases h2 : num w < 0
    · simp [h1, h2]
    · by_cases h3 : num w / 256 > 2147483647
      · have h4 : num w > 549755813887 := by omega
        simp [h1, h2, h3, h4]
      · have h4 : ¬ num w > 549755813887 := by omega
        obtain ⟨m, hm⟩ : ∃ m : Nat, num w = m := ⟨(num w).toNat, by omega⟩
        have : Go.bits .and .i64 (num w) 255 = num w % 256 := by rw [hm]; exact and_255 m (by omega)
        simp [h1, h2, h3, h4, this]
  · simp [h1]
theorem rTag (w : Int) (h0 : 0 ≤ w) (h : w ≤ 18446744073709551615) : grapnelref01_Tag.f w = some (tagOf w) := by
  unfold grapnelref01_Tag.f tagOf
  rw [rNum w h0 h, rIs w h0]
  simp only [Option.bind_some, beq_iff_eq]
  split
  · split
    · rfl
    · split
      · rfl
      · rw [Int.tmod_eq_emod_of_nonneg (by omega)]
  · rfl
theorem rSize (w : Int) (h0 : 0 ≤ w) (h : w ≤ 18446744073709551615) : grapnelref01_Size.f w = some (sizeOf w) := by
  unfold grapnelref01_Size.f sizeOf
  rw [rNum w h0 h, rIs w h0]
  simp only [Option.bind_some, beq_iff_eq]
  split
  · split
    · rfl
    · split
      · rfl
      · rw [Int.tdiv_eq_ediv_of_nonneg (by omega)]; congr 1; unfold wrap64; omega
  · rfl
theorem wTag (w : Int) (h0 : 0 ≤ w) (h : w ≤ 18446744073709551615) : word_Tag.f w = some (tagOf w) := by
  unfold word_Tag.f; rw [wParts w h0 h]; rfl
theorem wSize (w : Int) (h0 : 0 ≤ w) (h : w ≤ 18446744073709551615) : word_Size.f w = some (sizeOf w) := by
  unfold word_Size.f; rw [wParts w h0 h]; rfl
theorem headSome (t s : Int) : ∃ r, word_Head.f t s = some r := by
  rw [wHead]; split
  · exact ⟨_, rfl⟩
  · split
    · exact ⟨_, rfl⟩
    · split
      · exact ⟨_, rfl⟩
      · split <;> exact ⟨_, rfl⟩
theorem head11 : word_Head.f 1 1 = some 515 := by rw [wHead]; rfl
theorem WordHeads : grapnellaw01_WordHeads.Pure := by
  intro t s w _ _ hw
  obtain ⟨w0, w1⟩ := wf_u64 hw
  obtain ⟨r, hr⟩ := headSome t s
  have hr' : grapnelref01_Head.f t s = some r := by rw [rHead, ← wHead]; exact hr
  unfold grapnellaw01_WordHeads.f
  simp [hr, hr', wTag w w0 w1, rTag w w0 w1, wSize w w0 w1, rSize w w0 w1, head11]

end Go.Proofs.Ytblianhdcnpgjaa.Pure
