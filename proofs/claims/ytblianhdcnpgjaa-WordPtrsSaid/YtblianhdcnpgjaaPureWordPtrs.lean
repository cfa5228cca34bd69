/- The law WordPtrs over numbers alone: the words of addresses and the addresses of words of program and reference agree, for every int and every 64-bit word. -/
import Derived.Test.YtblianhdcnpgjaaPWordPtrsx1
import Derived.Test.YtblianhdcnpgjaaNumA
namespace Go.Proofs.Ytblianhdcnpgjaa.Pure
open Go.RowKit Go.Proofs.Ytblianhdcnpgjaa.PWordPtrs Go.Proofs.YtblianhdcnpgjaaW.PrintWords Go.Proofs.YtblianhdcnpgjaaW.PrintLast
open Go.Proofs.Ytblianhdcnpgjaa.Num

theorem wIs (w : Int) (h0 : 0 ≤ w) (h : w ≤ 18446744073709551615) : word_IsInt.f w = some (w % 2 == 1) := by unfold word_IsInt.f; rw [and_one w h0 (by omega)]

theorem wPtr (a : Int) : word_Ptr.f a = grapnelref01_Ptr.f a := by
  unfold word_Ptr.f grapnelref01_Ptr.f
  split
  · rfl
  · split
    · rfl
    · simp only [u64w]; congr 1; omega
theorem wAddr (w : Int) (h0 : 0 ≤ w) (h : w ≤ 18446744073709551615) : word_Addr.f w = grapnelref01_Addr.f w := by
  unfold word_Addr.f grapnelref01_Addr.f
  rw [wIs w h0 h, Int.tmod_eq_emod_of_nonneg h0, Int.tdiv_eq_ediv_of_nonneg h0, IntWalk.u64_in _ (by omega)]
  simp only [Option.bind_some, beq_iff_eq]
  split
  · rfl
  · by_cases h2 : w / 2 > 2147483647
    · rw [if_pos h2, if_pos (by omega)]
    · rw [if_neg h2, if_neg (by omega)]
theorem rPtrSome (a : Int) : ∃ r, grapnelref01_Ptr.f a = some r := by
  unfold grapnelref01_Ptr.f; split
  · exact ⟨_, rfl⟩
  · split <;> exact ⟨_, rfl⟩
theorem rAddrSome (a : Int) : ∃ r, grapnelref01_Addr.f a = some r := by
  unfold grapnelref01_Addr.f; split
  · exact ⟨_, rfl⟩
  · split <;> exact ⟨_, rfl⟩
theorem wPtr5 : word_Ptr.f 5 = some 10 := by
  unfold word_Ptr.f
  rw [if_neg (by omega), if_neg (by omega)]; simp only [u64w]; rfl
theorem WordPtrs : grapnellaw01_WordPtrs.Pure := by
  intro n w _ hw
  obtain ⟨w0, w1⟩ := wf_u64 hw
  obtain ⟨p, hp⟩ := rPtrSome n
  obtain ⟨a, ha⟩ := rAddrSome w
  unfold grapnellaw01_WordPtrs.f
  simp [wPtr n, wAddr w w0 w1, hp, ha, wPtr5]

end Go.Proofs.Ytblianhdcnpgjaa.Pure
