/- The walks of the references' digits: what they are. -/
import Derived.Test.YtklclcenfjecpaaDoorWalkA
import Derived.Laws.BytesString
import Derived.Laws.Cells
import Derived.Lib.Hide
namespace Go.Proofs.YtklclcenfjecpaaDoor.DoorWalk
open Go.RowKit Go.Proofs.YtklclcenfjecpaaDoorW.PrintWords Go.Proofs.YtklclcenfjecpaaDoorW.PrintLast Go.Proofs.YtklclcenfjecpaaDoorW.PrintMore
open Go.Proofs.YtklclcenfjecpaaDoor.Num
theorem conv1 (w : World) (c : Int) : (convert 49 9 (.slice (some ⟨w.heap.size, 0, none⟩) 1 1)).run Tryd.prog (w.alloc (.cells #[.int .u8 c] 5)) = .ok (.string (ByteArray.empty.push (UInt8.ofNat c.toNat))) (w.alloc (.cells #[.int .u8 c] 5)) := by
  rw [run_convert_bytes_string _ 49 9 5 _ _ _ (by kernel_rfl) (by kernel_rfl) (by kernel_rfl)]
  rw [run_bytesToString _ _ 1 1 [c] (run_loadCells_list _ _ [.int .u8 c] (by
    intro j v h
    cases j with
    | zero => simp at h; subst h; simp [Addr.add, World.cell?_alloc_new]
    | succ j => simp at h))]
  rfl
theorem digits_small (n : Int) (S : ByteArray) (hS : Aside0 (S = ByteArray.empty.push (UInt8.ofNat (wrap64 (48 - Int.tmod n 10) % 256).toNat))) (w : World) (c2b0 : decide (-10 < n) = true) : Calls Tryd.prog 20 #[.int .i64 n] w fun e w' => e = .returned (.string S) ∧ Below w.heap.size w w' := by
  have hk := conv1 w (wrap64 (48 - Int.tmod n 10) % 256)
  rw [← hS.out] at hk
  go_enter Tryd.func20, Tryd.ntmps20
  go_wp2
  go_ret
  exact ⟨rfl, (Below.refl _ _).alloc (Nat.le_refl _) _⟩
theorem digits_large (n m : Int) (S D : ByteArray) (hS : Aside0 (S = ByteArray.empty.push (UInt8.ofNat (wrap64 (48 - Int.tmod n 10) % 256).toNat))) (hm : Aside0 (wrap64 (Int.tdiv n 10) = m)) (hs : S.size ≤ 100) (hd : D.size ≤ 100) (w : World) (c2b0 : decide (-10 < n) = false)
    (hrec : Aside0 (∀ w, Calls Tryd.prog 20 #[.int .i64 m] w fun e w' => e = .returned (.string D) ∧ Below w.heap.size w w')) :
    Calls Tryd.prog 20 #[.int .i64 n] w fun e w' => e = .returned (.string (D ++ S)) ∧ Below w.heap.size w w' := by
  have hk := conv1 w (wrap64 (48 - Int.tmod n 10) % 256)
  rw [← hS.out] at hk
  have hm' := hm.out
  go_enter Tryd.func20, Tryd.ntmps20
  go_wp2_with (go_at_call 20; (with_reducible refine (hrec.out _).mono ?_); rintro e w' ⟨rfl, hb⟩)
  go_ret
  exact ⟨rfl, ((Below.refl _ _).alloc (Nat.le_refl _) _).trans (hb.mono (by simp))⟩
theorem empty_push (c : UInt8) : ByteArray.empty.push c = ⟨#[c]⟩ := rfl
theorem last_digit (u : Nat) : (wrap64 (48 - Int.tmod (-(u : Int)) 10) % 256).toNat = 48 + u % 10 := by
  have h1 : Int.tmod (-(u : Int)) 10 = -((u % 10 : Nat) : Int) := by rw [Int.neg_tmod]; rfl
  rw [h1]; unfold wrap64; omega
theorem dec_size (u k : Nat) : u < 10 ^ (k + 1) → (Lib.decDigits u).length ≤ k + 1 := by
  induction k generalizing u with
  | zero => intro h; rw [dec_len u (by simpa using h)]; exact Nat.le_refl _
  | succ k ih =>
    intro h
    by_cases h10 : u < 10
    · rw [dec_len u h10]; omega
    · rw [Lib.decDigits, dif_neg h10, List.length_append]
      have := ih (u / 10) (by rw [Nat.pow_succ] at h; omega)
      simp; omega
theorem digits_c (u : Nat) : u ≤ 4611686018427387904 → ∀ w, Calls Tryd.prog 20 #[.int .i64 (-(u : Int))] w fun e w' => e = .returned (.string ⟨(Lib.decDigits u).toArray⟩) ∧ Below w.heap.size w w' := by
  induction u using Nat.strongRecOn with
  | _ u ih =>
    intro hu w
    have hl := last_digit u
    by_cases h : u < 10
    · have e : (⟨(Lib.decDigits u).toArray⟩ : ByteArray) = ByteArray.empty.push (UInt8.ofNat (wrap64 (48 - Int.tmod (-(u : Int)) 10) % 256).toNat) := by
        rw [hl, empty_push, Lib.decDigits, dif_pos h, Nat.mod_eq_of_lt h]
      exact digits_small _ _ ⟨e⟩ w (decide_eq_true (by omega))
    · have e : (⟨(Lib.decDigits u).toArray⟩ : ByteArray) = ⟨(Lib.decDigits (u / 10)).toArray⟩ ++ ByteArray.empty.push (UInt8.ofNat (wrap64 (48 - Int.tmod (-(u : Int)) 10) % 256).toNat) := by
        rw [hl, empty_push, Lib.decDigits, dif_neg h]
        apply ByteArray.ext
        simp
      rw [e]
      refine digits_large _ (-((u / 10 : Nat) : Int)) _ _ ⟨rfl⟩ ⟨?_⟩ ?_ ?_ w (decide_eq_false (by omega)) ⟨fun w => ih (u / 10) (by omega) (by omega) w⟩
      · have h1 : Int.tdiv (-(u : Int)) 10 = -((u / 10 : Nat) : Int) := by rw [Int.neg_tdiv]; rfl
        rw [h1]; unfold wrap64; omega
      · rw [empty_push]; exact (by decide : 1 ≤ 100)
      · have := dec_size (u / 10) 20 (by omega)
        show (Lib.decDigits (u / 10)).toArray.size ≤ 100
        rw [List.size_toArray]; omega
end Go.Proofs.YtklclcenfjecpaaDoor.DoorWalk
