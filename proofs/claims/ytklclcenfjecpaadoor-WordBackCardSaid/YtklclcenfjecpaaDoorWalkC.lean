/- The walks of the digits of program and reference, and of the law WordDigits. -/
import Derived.Test.YtklclcenfjecpaaDoorWalkB
import Derived.Lib.AppendIntMem
namespace Go.Proofs.YtklclcenfjecpaaDoor.DoorWalk
open Go.RowKit Go.Proofs.YtklclcenfjecpaaDoorW.PrintWords Go.Proofs.YtklclcenfjecpaaDoorW.PrintLast Go.Proofs.YtklclcenfjecpaaDoorW.PrintMore
open Go.Proofs.YtklclcenfjecpaaDoor.Num
/-- A word's digits, as Go's string. -/
def digS (n : Int) : ByteArray := ⟨(Lib.itoa n).toArray⟩
theorem dig_neg (n : Int) (h : n < 0) : digS n = (⟨#[45]⟩ : ByteArray) ++ ⟨(Lib.decDigits n.natAbs).toArray⟩ := by
  unfold digS Lib.itoa; rw [if_pos h]; apply ByteArray.ext; simp
theorem dig_pos (n : Int) (h : ¬ n < 0) : digS n = ⟨(Lib.decDigits n.toNat).toArray⟩ := by
  unfold digS Lib.itoa; rw [if_neg h]
theorem below_drewN (w : World) (n : Nat) : Below w.heap.size w (w.drewN n) := (Drawn0.refl w).step n |>.below
theorem dec_sz (u : Nat) (h : u ≤ 4611686018427387904) : (⟨(Lib.decDigits u).toArray⟩ : ByteArray).size ≤ 100 := by
  have := dec_size u 20 (by omega)
  show (Lib.decDigits u).toArray.size ≤ 100
  rw [List.size_toArray]; omega
set_option maxHeartbeats 8000000 in
set_option maxRecDepth 100000 in
theorem rd_neg (a n : Int) (D : ByteArray) (hD : D.size ≤ 100) (w : World)
    (hn : Aside0 (∀ w, Calls Tryd.prog 19 #[.int .u64 a] w fun e w' => e = .returned (.int .i64 n) ∧ Drawn0 w w'))
    (hd : Aside0 (∀ w, Calls Tryd.prog 20 #[.int .i64 n] w fun e w' => e = .returned (.string D) ∧ Below w.heap.size w w')) (hlt : decide (n < 0) = true) :
    Calls Tryd.prog 7 #[.int .u64 a] w fun e w' => e = .returned (.string ((⟨#[45]⟩ : ByteArray) ++ D)) ∧ Below w.heap.size w w' := by
  go_enter Tryd.func7, Tryd.ntmps7
  go_wp2_with (first | (go_at_call 19; (with_reducible refine (hn.out _).mono ?_); rintro e w' ⟨rfl, ⟨nd, rfl⟩⟩) | (go_at_call 20; (with_reducible refine (hd.out _).mono ?_); rintro e w' ⟨rfl, hb⟩))
  go_ret
  exact ⟨rfl, (below_drewN _ _).trans hb⟩
set_option maxHeartbeats 8000000 in
set_option maxRecDepth 100000 in
theorem rd_pos (a n m : Int) (D : ByteArray) (w : World)
    (hn : Aside0 (∀ w, Calls Tryd.prog 19 #[.int .u64 a] w fun e w' => e = .returned (.int .i64 n) ∧ Drawn0 w w'))
    (hm : Aside0 (wrap64 (-n) = m))
    (hd : Aside0 (∀ w, Calls Tryd.prog 20 #[.int .i64 m] w fun e w' => e = .returned (.string D) ∧ Below w.heap.size w w')) (hlt : decide (n < 0) = false) :
    Calls Tryd.prog 7 #[.int .u64 a] w fun e w' => e = .returned (.string D) ∧ Below w.heap.size w w' := by
  have hm' := hm.out
  go_enter Tryd.func7, Tryd.ntmps7
  go_wp2_with (first | (go_at_call 19; (with_reducible refine (hn.out _).mono ?_); rintro e w' ⟨rfl, ⟨nd, rfl⟩⟩) | (go_at_call 20; (with_reducible refine (hd.out _).mono ?_); rintro e w' ⟨rfl, hb⟩))
  go_ret
  exact ⟨rfl, (below_drewN _ _).trans hb⟩
theorem ref_digits (a : Int) (h0 : 0 ≤ a) (h1 : a ≤ 18446744073709551615) (w : World) :
    Calls Tryd.prog 7 #[.int .u64 a] w fun e w' => e = .returned (.string (digS (num a))) ∧ Below w.heap.size w w' := by
  have hn : Aside0 (∀ w, Calls Tryd.prog 19 #[.int .u64 a] w fun e w' => e = .returned (.int .i64 (num a)) ∧ Drawn0 w w') := ⟨fun w => refnum_c a h0 h1 w⟩
  have bd := num_bd a
  by_cases h : num a < 0
  · rw [dig_neg _ h]
    refine rd_neg a (num a) _ (dec_sz _ (by omega)) w hn ⟨fun w => ?_⟩ (decide_eq_true h)
    have := digits_c (num a).natAbs (by omega) w
    rwa [show -((num a).natAbs : Int) = num a by omega] at this
  · rw [dig_pos _ h]
    refine rd_pos a (num a) (-((num a).toNat : Int)) _ w hn ⟨?_⟩ ⟨fun w => digits_c (num a).toNat (by omega) w⟩ (decide_eq_false h)
    unfold wrap64; omega
def pow10 : String := "internal/strconv.uint64pow10"
set_option maxHeartbeats 8000000 in
set_option maxRecDepth 100000 in
theorem wd_any (a n : Int) (D : ByteArray) (w : World)
    (hn : Aside0 (∀ w, Calls Tryd.prog 14 #[.int .u64 a] w fun e w' => e = .returned (.int .i64 n) ∧ Drawn0 w w'))
    (hd : Aside0 (∀ k, Calls Tryd.prog 18 #[.int .i64 n, .int .i64 10] (w.drewN k) fun e w' => e = .returned (.string D) ∧ Below w.heap.size w w')) :
    Calls Tryd.prog 6 #[.int .u64 a] w fun e w' => e = .returned (.string D) ∧ Below w.heap.size w w' := by
  go_enter Tryd.func6, Tryd.ntmps6
  go_wp2_with (first | (go_at_call 14; (with_reducible refine (hn.out _).mono ?_); rintro e w' ⟨rfl, ⟨nd, rfl⟩⟩) | (go_at_call 18; (with_reducible refine (hd.out _).mono ?_); rintro e w' ⟨rfl, hb⟩))
  go_ret
  exact ⟨rfl, hb⟩
theorem word_digits (a : Int) (w : World) (htab : Lib.TabIs Tryd.prog w "internal/strconv.uint64pow10" .u64 Lib.pow10Tab) :
    Calls Tryd.prog 6 #[.int .u64 a] w fun e w' => e = .returned (.string (digS (num a))) ∧ Below w.heap.size w w' := by
  have bd := num_bd a
  refine wd_any a (num a) _ w ⟨fun w => num_c a w⟩ ⟨fun k => ?_⟩
  refine (Tryd.strconv_FormatInt_10 (num a) (by omega) (by omega) (w.drewN k) htab).mono ?_
  rintro e w' ⟨rfl, k', os, rfl⟩
  exact ⟨rfl, (below_drewN w k).trans (Lib.below_grow w.heap.size (w.drewN k) (Nat.le_refl _) k' os)⟩
set_option maxHeartbeats 8000000 in
set_option maxRecDepth 100000 in
theorem law_any (a : Int) (D : ByteArray) (w : World)
    (hn : Aside0 (Calls Tryd.prog 6 #[.int .u64 a] w fun e w' => e = .returned (.string D) ∧ Below w.heap.size w w'))
    (hd : Aside0 (∀ w, Calls Tryd.prog 7 #[.int .u64 a] w fun e w' => e = .returned (.string D) ∧ Below w.heap.size w w')) :
    Calls Tryd.prog 3 #[.int .u64 a] w fun e w' => e = .returned (.bool true) ∧ Below w.heap.size w w' := by
  go_enter Tryd.func3, Tryd.ntmps3
  go_wp2_with (first | (go_at_call 6; (with_reducible refine hn.out.mono ?_); rintro e w' ⟨rfl, hb1⟩) | (go_at_call 7; (with_reducible refine (hd.out _).mono ?_); rintro e w' ⟨rfl, hb2⟩))
  go_ret
  exact ⟨rfl, hb1.trans (hb2.mono hb1.size)⟩
theorem digits_walk (a : Int) (h0 : 0 ≤ a) (h1 : a ≤ 18446744073709551615) (w : World) (htab : Lib.TabIs Tryd.prog w "internal/strconv.uint64pow10" .u64 Lib.pow10Tab) :
    Calls Tryd.prog 3 #[.int .u64 a] w fun e w' => e = .returned (.bool true) ∧ Below w.heap.size w w' :=
  law_any a (digS (num a)) w ⟨word_digits a w htab⟩ ⟨fun w => ref_digits a h0 h1 w⟩
end Go.Proofs.YtklclcenfjecpaaDoor.DoorWalk
