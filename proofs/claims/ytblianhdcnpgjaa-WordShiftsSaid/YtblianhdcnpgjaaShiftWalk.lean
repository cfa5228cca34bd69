/- The walk of the law WordShifts: a shift to the left is a product with a power of 2, one to the right takes it back where nothing was lost; for every int64 and every uint8 it returns true. -/
import Derived.Test.YtblianhdcnpgjaaPureWordDoes
namespace Go.Proofs.Ytblianhdcnpgjaa.ShiftWalk
open Go.RowKit Go.Proofs.Ytblianhdcnpgjaa.PWordDoes Go.Proofs.YtblianhdcnpgjaaW.PrintWords Go.Proofs.YtblianhdcnpgjaaW.PrintLast Go.Proofs.YtblianhdcnpgjaaW.PrintMore
open Go.Proofs.Ytblianhdcnpgjaa.Num Go.Proofs.Ytblianhdcnpgjaa.Pure
/-- A number times a power of 2: its word. -/
def pw (a : Int) (k : Nat) : Int := enc (a * 2 ^ k)
theorem pw_step (a : Int) (k : Nat) : word_Do.f 3 1 (pw a k) (pw a k) = some (pw a (k + 1), 0) := by
  unfold pw
  rw [wDo 0, num_enc]
  show some (enc (cut (a * 2 ^ k) + cut (a * 2 ^ k)), (0 : Int)) = _
  rw [enc_cut2 (o := a * 2 ^ (k + 1)) (by rw [Int.pow_succ, ← Int.mul_assoc]; omega)]
theorem pw_0 (a : Int) : word_Int.f a = some (pw a 0) := by unfold pw; rw [wInt]; simp
set_option maxHeartbeats 8000000 in
set_option maxRecDepth 100000 in
theorem shifts_calls (a b n R : Int) (m : Nat) (w : World) (hmn : n = m) (hmod : Int.tmod b 64 = n) (hn : n ≤ 63) (hX : word_Int.f n = some (enc n))
   (hl : word_Do.f 3 9 (pw a 0) (enc n) = some (pw a m, 0)) (hr : word_Do.f 3 10 (pw a m) (enc n) = some (R, 0))
    (hbig : Aside0 (62 < n → Aside0 (word_Num.f (pw a m) = some 0) ∧ Aside0 (word_Num.f R = some 0)))
    (hsm : Aside0 (n ≤ 62 → wrap64 (-(4611686018427387904 / 2 ^ n.toNat)) ≤ a → a < 4611686018427387904 / 2 ^ n.toNat → Aside0 (word_Num.f R = some a))) :
    Calls Try.prog 10 #[.int .i64 a, .int .u8 b] w fun e w' => e = .returned (.bool true) ∧ Drawn0 w w' := by
  have AX := Aside0.mk hX
  have AL := Aside0.mk hl
  have AR := Aside0.mk hr
  have AM := Aside0.mk hmn
  have h0 : 0 ≤ n := by omega
  clear hX hl hr hmn
  go_enter Try.func10, Try.ntmps10
  go_wp2_with (first | (go_at_call 12; (with_reducible refine (word_Int.calls a (pw a 0) _ (pw_0 a)).mono ?_); rintro e w' ⟨rfl, ⟨nd, rfl⟩⟩) | (go_at_call 12; (with_reducible refine (word_Int.calls n (enc n) _ AX.out).mono ?_); rintro e w' ⟨rfl, ⟨nd, rfl⟩⟩) | (go_at_call 28; (with_reducible refine (word_Do.calls 3 9 (pw a 0) (enc n) _ _ _ AL.out).mono ?_); rintro e w' ⟨rfl, ⟨nd, rfl⟩⟩))
  go_loopw [8, 9] (fun p i wr => ∃ k : Nat, k ≤ m ∧ p = .int .u64 (pw a k) ∧ i = .int .i64 k ∧ Drawn0 w wr) (fun _ i _ => m - (intOf i).toNat)
  case atStart => exact ⟨0, Nat.zero_le _, rfl, rfl, by repeat (first | exact Drawn0.refl _ | apply Drawn0.step)⟩
  case round =>
    obtain ⟨k, hk, rfl, rfl, hd⟩ := hrel
    obtain ⟨nw, rfl⟩ := hd
    by_cases hlt : k < m
    · have hlt' : (k : Int) < n := by rw [AM.out]; omega
      go_wp2_with (first | (go_at_call 28; (with_reducible refine (word_Do.calls 3 1 (pw a k) (pw a k) _ _ _ (pw_step a k)).mono ?_); rintro e w' ⟨rfl, ⟨nd, rfl⟩⟩))
      go_roundw
      case rel => exact ⟨k + 1, by omega, rfl, by go_num, by repeat (first | exact Drawn0.refl _ | apply Drawn0.step)⟩
      case measure => simp [intOf]; omega
    · obtain rfl : k = m := by omega
      have hge : ¬ (k : Int) < n := by rw [AM.out]; omega
      go_wp2_with (first | (go_at_call 12; (with_reducible refine (word_Int.calls n (enc n) _ AX.out).mono ?_); rintro e w' ⟨rfl, ⟨nd, rfl⟩⟩) | (go_at_call 28; (with_reducible refine (word_Do.calls 3 10 (pw a k) (enc n) _ _ _ AR.out).mono ?_); rintro e w' ⟨rfl, ⟨nd, rfl⟩⟩) | fail)
      · have hb1 := (hbig.out ‹62 < n›).1
        have hb2 := (hbig.out ‹62 < n›).2
        go_wp2_with (first | (go_at_call 14; (with_reducible refine (word_Num.calls (pw a k) 0 _ hb1.out).mono ?_); rintro e w' ⟨rfl, ⟨nd, rfl⟩⟩) | (go_at_call 14; (with_reducible refine (word_Num.calls R 0 _ hb2.out).mono ?_); rintro e w' ⟨rfl, ⟨nd, rfl⟩⟩))
        go_ret
        exact ⟨by first | rfl | (simp; done) | (simp [*]; done), by repeat (first | exact Drawn0.refl _ | apply Drawn0.step)⟩
      · have hs := hsm.out ‹n ≤ 62› ‹_› ‹_›
        go_wp2_with (first | (go_at_call 14; (with_reducible refine (word_Num.calls R a _ hs.out).mono ?_); rintro e w' ⟨rfl, ⟨nd, rfl⟩⟩))
        go_ret
        exact ⟨by first | rfl | (simp; done) | (simp [*]; done), by repeat (first | exact Drawn0.refl _ | apply Drawn0.step)⟩
      · go_ret
        exact ⟨by first | rfl | (simp; done) | (simp [*]; done), by repeat (first | exact Drawn0.refl _ | apply Drawn0.step)⟩
      · go_ret
        exact ⟨by first | rfl | (simp; done) | (simp [*]; done), by repeat (first | exact Drawn0.refl _ | apply Drawn0.step)⟩
theorem enc_0 : enc 0 = 1 := rfl
theorem shifts_walk (a b : Int) (w : World) (wb : (Lit.int .u8 b).wf = true) :
    Calls Try.prog 10 #[.int .i64 a, .int .u8 b] w fun e w' => e = .returned (.bool true) ∧ Below w.heap.size w w' := by
  obtain ⟨b0, b1⟩ := wf_u8 wb
  have hmod : Int.tmod b 64 = b % 64 := Int.tmod_eq_emod_of_nonneg b0
  obtain ⟨m, hm⟩ : ∃ m : Nat, b % 64 = m := ⟨(b % 64).toNat, by omega⟩
  have hn : b % 64 ≤ 63 := by omega
  generalize b % 64 = n at *
  have cn : cut n = n := cut_in (by omega)
  have hl : word_Do.f 3 9 (pw a 0) (enc n) = some (pw a m, 0) := by
    have e : pw a 0 = enc a := by unfold pw; simp
    rw [e, wDo 0, num_enc, num_enc, cn]
    show some (enc (if n < 0 ∨ n > 62 then 0 else cut a * 2 ^ n.toNat), (0 : Int)) = _
    unfold pw
    by_cases h62 : n > 62
    · obtain rfl : n = 63 := by omega
      obtain rfl : m = 63 := by omega
      rw [if_pos (by omega), enc_of (a := a * 2 ^ 63) (b := 0) (c := a) (by omega)]
    · rw [if_neg (by omega)]
      obtain ⟨c, hc⟩ := cut_form a
      have e2 : n.toNat = m := by omega
      rw [e2, hc, Int.add_mul, enc_of (a := a * 2 ^ m + 9223372036854775808 * c * 2 ^ m) (b := a * 2 ^ m) (c := c * 2 ^ m) (by rw [Int.mul_assoc])]
  have hr : word_Do.f 3 10 (pw a m) (enc n) = some (enc (if n > 62 then cut (a * 2 ^ m) / 4611686018427387904 else cut (a * 2 ^ m) / 2 ^ m), 0) := by
    unfold pw
    rw [wDo 0, num_enc, num_enc, cn]
    show some (enc (if n < 0 ∨ n > 62 then cut (a * 2 ^ m) / 4611686018427387904 else cut (a * 2 ^ m) / 2 ^ n.toNat), (0 : Int)) = _
    have e2 : n.toNat = m := by omega
    rw [e2]
    by_cases h62 : n > 62
    · rw [if_pos (by omega), if_pos h62]
    · rw [if_neg (by omega), if_neg h62]
  refine (shifts_calls a b n _ m w hm hmod hn (wInt n) hl hr ⟨?_⟩ ⟨?_⟩).mono fun _ _ ⟨he, hd⟩ => ⟨he, hd.below⟩
  · intro h62
    obtain rfl : n = 63 := by omega
    obtain rfl : m = 63 := by omega
    have hz : cut (a * 2 ^ 63) = 0 := by unfold cut; omega
    refine ⟨⟨?_⟩, ⟨?_⟩⟩
    · unfold pw; rw [wNum, num_enc, hz]
    · rw [if_pos h62, hz, wNum, num_enc]; rfl
  · intro h62 h1 h2
    have e2 : n.toNat = m := by omega
    rw [e2] at h1 h2
    constructor
    rw [if_neg (by omega), wNum, num_enc]
    have hp : (0 : Int) < 2 ^ m := by have := Nat.two_pow_pos m; have h2 : ((2 ^ m : Nat) : Int) = 2 ^ m := by { rw [Int.natCast_pow]; rfl }; rw [← h2]; omega
    have hmul : (4611686018427387904 : Int) / 2 ^ m * 2 ^ m = 4611686018427387904 := by
      have hs : (4611686018427387904 : Int) = 2 ^ (62 - m) * 2 ^ m := by rw [← Int.pow_add, Nat.sub_add_cancel (by omega)]; rfl
      rw [hs, Int.mul_ediv_cancel _ (by omega)]
    have hq : (4611686018427387904 : Int) / 2 ^ m ≤ 4611686018427387904 := Int.ediv_le_self _ (by omega)
    have hq0 : (0 : Int) ≤ 4611686018427387904 / 2 ^ m := Int.ediv_nonneg (by omega) (by omega)
    generalize (4611686018427387904 : Int) / 2 ^ m = q at *
    have hw : wrap64 (-q) = -q := by unfold wrap64; omega
    rw [hw] at h1
    have h3 : a * 2 ^ m < q * 2 ^ m := Int.mul_lt_mul_of_pos_right h2 hp
    have h4 : -q * 2 ^ m ≤ a * 2 ^ m := Int.mul_le_mul_of_nonneg_right h1 (by omega)
    rw [Int.neg_mul] at h4
    have hc : cut (a * 2 ^ m) = a * 2 ^ m := cut_in (by omega)
    rw [hc, Int.mul_ediv_cancel _ (by omega), cut_in (by omega)]
end Go.Proofs.Ytblianhdcnpgjaa.ShiftWalk
