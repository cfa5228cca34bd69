/- The walks of the small functions (numbers, words, cuts) that the laws WordDigits, WordParses, WordBack reach. -/
import Derived.Test.YtklclcenfjecpaaDoorPWordDigitsx0
import Derived.Test.YtklclcenfjecpaaDoorNumP
import Derived.Test.YtklclcenfjecpaaDoorShelf
namespace Go.Proofs.YtklclcenfjecpaaDoor.DoorWalk
open Go.RowKit Go.Proofs.YtklclcenfjecpaaDoorW.PrintWords Go.Proofs.YtklclcenfjecpaaDoorW.PrintLast Go.Proofs.YtklclcenfjecpaaDoorW.PrintMore
open Go.Proofs.YtklclcenfjecpaaDoor.Num
theorem int_c (a : Int) (w : World) : Calls Tryd.prog 10 #[.int .i64 a] w fun e w' => e = .returned (.int .u64 (enc a)) ∧ Drawn0 w w' := by
  rw [← word_enc a]
  go_enter Tryd.func10, Tryd.ntmps10
  go_wp2
  go_ret
  exact ⟨rfl, by repeat (first | exact Drawn0.refl _ | apply Drawn0.step)⟩
theorem num_c (a : Int) (w : World) : Calls Tryd.prog 14 #[.int .u64 a] w fun e w' => e = .returned (.int .i64 (num a)) ∧ Drawn0 w w' := by
  unfold num
  go_enter Tryd.func14, Tryd.ntmps14
  go_wp2
  go_ret
  exact ⟨rfl, by repeat (first | exact Drawn0.refl _ | apply Drawn0.step)⟩
theorem isint_c (a : Int) (h0 : 0 ≤ a) (h1 : a ≤ 18446744073709551615) (w : World) : Calls Tryd.prog 13 #[.int .u64 a] w fun e w' => e = .returned (.bool (a % 2 == 1)) ∧ Drawn0 w w' := by
  rw [← Num.and_one a h0 (by omega)]
  clear h0 h1
  go_enter Tryd.func13, Tryd.ntmps13
  go_wp2
  go_ret
  exact ⟨rfl, by repeat (first | exact Drawn0.refl _ | apply Drawn0.step)⟩
theorem refnum_c (a : Int) (h0 : 0 ≤ a) (h1 : a ≤ 18446744073709551615) (w : World) : Calls Tryd.prog 19 #[.int .u64 a] w fun e w' => e = .returned (.int .i64 (num a)) ∧ Drawn0 w w' := by
  have h := ref_num a h0 h1
  clear h0 h1
  by_cases c2 : wrap64 (IntKind.u64.wrap (Int.tdiv a 2)) > 4611686018427387903
  · rw [if_pos c2] at h
    rw [← Option.some.inj h]
    have c2b0 : decide (4611686018427387903 < (wrap64 (IntKind.u64.wrap (Int.tdiv a 2)))) = true := decide_eq_true c2
    clear c2 h
    go_enter Tryd.func19, Tryd.ntmps19
    go_wp2
    go_ret
    exact ⟨rfl, by repeat (first | exact Drawn0.refl _ | apply Drawn0.step)⟩
  · rw [if_neg c2] at h
    rw [← Option.some.inj h]
    have c2b0 : decide (4611686018427387903 < (wrap64 (IntKind.u64.wrap (Int.tdiv a 2)))) = false := decide_eq_false c2
    clear c2 h
    go_enter Tryd.func19, Tryd.ntmps19
    go_wp2
    go_ret
    exact ⟨rfl, by repeat (first | exact Drawn0.refl _ | apply Drawn0.step)⟩
theorem refcut_c (a : Int) (h0 : -9223372036854775808 ≤ a) (h1 : a ≤ 9223372036854775807) (w : World) : Calls Tryd.prog 37 #[.int .i64 a] w fun e w' => e = .returned (.int .i64 (cut a)) ∧ Drawn0 w w' := by
  have h := ref_cut a h0 h1
  clear h0 h1
  by_cases c2 : a > 4611686018427387903
  · rw [if_pos c2] at h
    rw [← Option.some.inj h]
    have c2b0 : decide (4611686018427387903 < a) = true := decide_eq_true c2
    clear c2 h
    go_enter Tryd.func37, Tryd.ntmps37
    go_wp2
    go_ret
    exact ⟨rfl, by repeat (first | exact Drawn0.refl _ | apply Drawn0.step)⟩
  · rw [if_neg c2] at h
    have c2b0 : decide (4611686018427387903 < a) = false := decide_eq_false c2
    clear c2
    by_cases c3 : a < -4611686018427387904
    · rw [if_pos c3] at h
      rw [← Option.some.inj h]
      have c3b0 : decide (a < -4611686018427387904) = true := decide_eq_true c3
      clear c3 h
      go_enter Tryd.func37, Tryd.ntmps37
      go_wp2
      go_ret
      exact ⟨rfl, by repeat (first | exact Drawn0.refl _ | apply Drawn0.step)⟩
    · rw [if_neg c3] at h
      rw [← Option.some.inj h]
      have c3b0 : decide (a < -4611686018427387904) = false := decide_eq_false c3
      clear c3 h
      go_enter Tryd.func37, Tryd.ntmps37
      go_wp2
      go_ret
      exact ⟨rfl, by repeat (first | exact Drawn0.refl _ | apply Drawn0.step)⟩
theorem refint_c (a : Int) (h0 : -9223372036854775808 ≤ a) (h1 : a ≤ 9223372036854775807) (w : World) : Calls Tryd.prog 24 #[.int .i64 a] w fun e w' => e = .returned (.int .u64 (enc a)) ∧ Drawn0 w w' := by
  have h := (ref_enc (cut a)).trans (by rw [enc_cut])
  have hc := fun w => refcut_c a h0 h1 w
  have hC := Aside0.mk hc
  clear hc h0 h1
  generalize cut a = t at h hC
  by_cases c3 : t < 0
  · rw [if_pos c3] at h
    rw [← Option.some.inj h]
    have c3b0 : decide (t < 0) = true := decide_eq_true c3
    clear c3 h
    go_enter Tryd.func24, Tryd.ntmps24
    go_wp2_with (go_at_call 37; (with_reducible refine (hC.out _).mono ?_); rintro e w' ⟨rfl, ⟨nd, rfl⟩⟩)
    go_ret
    exact ⟨rfl, by repeat (first | exact Drawn0.refl _ | apply Drawn0.step)⟩
  · rw [if_neg c3] at h
    rw [← Option.some.inj h]
    have c3b0 : decide (t < 0) = false := decide_eq_false c3
    clear c3 h
    go_enter Tryd.func24, Tryd.ntmps24
    go_wp2_with (go_at_call 37; (with_reducible refine (hC.out _).mono ?_); rintro e w' ⟨rfl, ⟨nd, rfl⟩⟩)
    go_ret
    exact ⟨rfl, by repeat (first | exact Drawn0.refl _ | apply Drawn0.step)⟩
end Go.Proofs.YtklclcenfjecpaaDoor.DoorWalk
