/- The walk of the law WordLess with its inner function: for every three int64s it returns true. -/
import Derived.Test.YtblianhdcnpgjaaPureWordDoes
namespace Go.Proofs.Ytblianhdcnpgjaa.LessWalk
open Go.RowKit Go.Proofs.Ytblianhdcnpgjaa.PWordDoes Go.Proofs.YtblianhdcnpgjaaW.PrintWords Go.Proofs.YtblianhdcnpgjaaW.PrintLast Go.Proofs.YtblianhdcnpgjaaW.PrintMore
open Go.Proofs.Ytblianhdcnpgjaa.Num Go.Proofs.Ytblianhdcnpgjaa.Pure
theorem do_less (p q : Int) : word_Do.f 3 11 (enc p) (enc q) = some (if cut p < cut q then 3 else 1, 0) := by
  have e1 : enc 1 = 3 := rfl
  have e0 : enc 0 = 1 := rfl
  rw [wDo 0, num_enc, num_enc]
  by_cases h : cut p < cut q <;> simp [doN, h, e1, e0]
def lt (p q : Int) : Prop := cut p < cut q
set_option maxHeartbeats 8000000 in
set_option maxRecDepth 100000 in
theorem less_yes (p q : Int) (w : World) (h : Aside0 (lt p q)) :
    Calls Try.prog 31 #[.int .i64 p, .int .i64 q] w fun e w' => e = .returned (.bool true) ∧ Drawn0 w w' := by
  have hd : Aside0 (word_Do.f 3 11 (enc p) (enc q) = some (3, 0)) := ⟨by rw [do_less]; exact congrArg (fun x => some (x, 0)) (if_pos h.out)⟩
  clear h
  go_enter Try.func31, Try.ntmps31
  go_wp2_with (first | (go_at_call 12; (with_reducible refine (word_Int.calls p (enc p) _ (wInt p)).mono ?_); rintro e w' ⟨rfl, ⟨nd, rfl⟩⟩) | (go_at_call 12; (with_reducible refine (word_Int.calls q (enc q) _ (wInt q)).mono ?_); rintro e w' ⟨rfl, ⟨nd, rfl⟩⟩) | (go_at_call 28; (with_reducible refine (word_Do.calls 3 11 (enc p) (enc q) 3 0 _ hd.out).mono ?_); rintro e w' ⟨rfl, ⟨nd, rfl⟩⟩))
  go_ret
  exact ⟨by first | rfl | (simp; done) | (simp [*]; done), by repeat (first | exact Drawn0.refl _ | apply Drawn0.step)⟩
set_option maxHeartbeats 8000000 in
set_option maxRecDepth 100000 in
theorem less_no (p q : Int) (w : World) (h : Aside0 (¬ lt p q)) :
    Calls Try.prog 31 #[.int .i64 p, .int .i64 q] w fun e w' => e = .returned (.bool false) ∧ Drawn0 w w' := by
  have hd : Aside0 (word_Do.f 3 11 (enc p) (enc q) = some (1, 0)) := ⟨by rw [do_less]; exact congrArg (fun x => some (x, 0)) (if_neg h.out)⟩
  clear h
  go_enter Try.func31, Try.ntmps31
  go_wp2_with (first | (go_at_call 12; (with_reducible refine (word_Int.calls p (enc p) _ (wInt p)).mono ?_); rintro e w' ⟨rfl, ⟨nd, rfl⟩⟩) | (go_at_call 12; (with_reducible refine (word_Int.calls q (enc q) _ (wInt q)).mono ?_); rintro e w' ⟨rfl, ⟨nd, rfl⟩⟩) | (go_at_call 28; (with_reducible refine (word_Do.calls 3 11 (enc p) (enc q) 1 0 _ hd.out).mono ?_); rintro e w' ⟨rfl, ⟨nd, rfl⟩⟩))
  go_ret
  exact ⟨by first | rfl | (simp; done) | (simp [*]; done), by repeat (first | exact Drawn0.refl _ | apply Drawn0.step)⟩
theorem lt_12 : Aside0 (lt 1 2) := ⟨by unfold lt cut; omega⟩
theorem lt_21 : Aside0 (¬ lt 2 1) := ⟨by unfold lt cut; omega⟩
theorem lt_self (a : Int) : Aside0 (¬ lt a a) := ⟨by unfold lt; omega⟩
set_option maxHeartbeats 8000000 in
set_option maxRecDepth 100000 in
theorem less_eq_y (a b c : Int) (w : World) (hab : Aside0 (¬ lt a b)) (hba : Aside0 (¬ lt b a)) (hac : Aside0 (lt a c)) (hbc : Aside0 (lt b c)) (heq : (enc a == enc b) = true) :
    Calls Try.prog 9 #[.int .i64 a, .int .i64 b, .int .i64 c] w fun e w' => e = .returned (.bool true) ∧ Drawn0 w w' := by
  go_enter Try.func9, Try.ntmps9
  go_wp2_with (first | (go_at_call 12; (with_reducible refine (word_Int.calls a (enc a) _ (wInt a)).mono ?_); rintro e w' ⟨rfl, ⟨nd, rfl⟩⟩) | (go_at_call 12; (with_reducible refine (word_Int.calls b (enc b) _ (wInt b)).mono ?_); rintro e w' ⟨rfl, ⟨nd, rfl⟩⟩) | (go_at_call 31; (with_reducible refine (less_yes 1 2 _ lt_12).mono ?_); rintro e w' ⟨rfl, ⟨nd, rfl⟩⟩) | (go_at_call 31; (with_reducible refine (less_no 2 1 _ lt_21).mono ?_); rintro e w' ⟨rfl, ⟨nd, rfl⟩⟩) | (go_at_call 31; (with_reducible refine (less_no a a _ (lt_self a)).mono ?_); rintro e w' ⟨rfl, ⟨nd, rfl⟩⟩) | (go_at_call 31; (with_reducible refine (less_no a b _ hab).mono ?_); rintro e w' ⟨rfl, ⟨nd, rfl⟩⟩) | (go_at_call 31; (with_reducible refine (less_no b a _ hba).mono ?_); rintro e w' ⟨rfl, ⟨nd, rfl⟩⟩) | (go_at_call 31; (with_reducible refine (less_yes a c _ hac).mono ?_); rintro e w' ⟨rfl, ⟨nd, rfl⟩⟩) | (go_at_call 31; (with_reducible refine (less_yes b c _ hbc).mono ?_); rintro e w' ⟨rfl, ⟨nd, rfl⟩⟩))
  go_ret
  exact ⟨by first | rfl | (simp; done) | (simp [*]; done), by repeat (first | exact Drawn0.refl _ | apply Drawn0.step)⟩
set_option maxHeartbeats 8000000 in
set_option maxRecDepth 100000 in
theorem less_eq_n (a b c : Int) (w : World) (hab : Aside0 (¬ lt a b)) (hba : Aside0 (¬ lt b a)) (hac : Aside0 (¬ lt a c)) (hbc : Aside0 (¬ lt b c)) (heq : (enc a == enc b) = true) :
    Calls Try.prog 9 #[.int .i64 a, .int .i64 b, .int .i64 c] w fun e w' => e = .returned (.bool true) ∧ Drawn0 w w' := by
  go_enter Try.func9, Try.ntmps9
  go_wp2_with (first | (go_at_call 12; (with_reducible refine (word_Int.calls a (enc a) _ (wInt a)).mono ?_); rintro e w' ⟨rfl, ⟨nd, rfl⟩⟩) | (go_at_call 12; (with_reducible refine (word_Int.calls b (enc b) _ (wInt b)).mono ?_); rintro e w' ⟨rfl, ⟨nd, rfl⟩⟩) | (go_at_call 31; (with_reducible refine (less_yes 1 2 _ lt_12).mono ?_); rintro e w' ⟨rfl, ⟨nd, rfl⟩⟩) | (go_at_call 31; (with_reducible refine (less_no 2 1 _ lt_21).mono ?_); rintro e w' ⟨rfl, ⟨nd, rfl⟩⟩) | (go_at_call 31; (with_reducible refine (less_no a a _ (lt_self a)).mono ?_); rintro e w' ⟨rfl, ⟨nd, rfl⟩⟩) | (go_at_call 31; (with_reducible refine (less_no a b _ hab).mono ?_); rintro e w' ⟨rfl, ⟨nd, rfl⟩⟩) | (go_at_call 31; (with_reducible refine (less_no b a _ hba).mono ?_); rintro e w' ⟨rfl, ⟨nd, rfl⟩⟩) | (go_at_call 31; (with_reducible refine (less_no a c _ hac).mono ?_); rintro e w' ⟨rfl, ⟨nd, rfl⟩⟩) | (go_at_call 31; (with_reducible refine (less_no b c _ hbc).mono ?_); rintro e w' ⟨rfl, ⟨nd, rfl⟩⟩))
  go_ret
  exact ⟨by first | rfl | (simp; done) | (simp [*]; done), by repeat (first | exact Drawn0.refl _ | apply Drawn0.step)⟩
set_option maxHeartbeats 8000000 in
set_option maxRecDepth 100000 in
theorem less_gt (a b c : Int) (w : World) (hab : Aside0 (¬ lt a b)) (hba : Aside0 (lt b a)) (heq : (enc a == enc b) = false) :
    Calls Try.prog 9 #[.int .i64 a, .int .i64 b, .int .i64 c] w fun e w' => e = .returned (.bool true) ∧ Drawn0 w w' := by
  go_enter Try.func9, Try.ntmps9
  go_wp2_with (first | (go_at_call 12; (with_reducible refine (word_Int.calls a (enc a) _ (wInt a)).mono ?_); rintro e w' ⟨rfl, ⟨nd, rfl⟩⟩) | (go_at_call 12; (with_reducible refine (word_Int.calls b (enc b) _ (wInt b)).mono ?_); rintro e w' ⟨rfl, ⟨nd, rfl⟩⟩) | (go_at_call 31; (with_reducible refine (less_yes 1 2 _ lt_12).mono ?_); rintro e w' ⟨rfl, ⟨nd, rfl⟩⟩) | (go_at_call 31; (with_reducible refine (less_no 2 1 _ lt_21).mono ?_); rintro e w' ⟨rfl, ⟨nd, rfl⟩⟩) | (go_at_call 31; (with_reducible refine (less_no a a _ (lt_self a)).mono ?_); rintro e w' ⟨rfl, ⟨nd, rfl⟩⟩) | (go_at_call 31; (with_reducible refine (less_no a b _ hab).mono ?_); rintro e w' ⟨rfl, ⟨nd, rfl⟩⟩) | (go_at_call 31; (with_reducible refine (less_yes b a _ hba).mono ?_); rintro e w' ⟨rfl, ⟨nd, rfl⟩⟩))
  go_ret
  exact ⟨by first | rfl | (simp; done) | (simp [*]; done), by repeat (first | exact Drawn0.refl _ | apply Drawn0.step)⟩
set_option maxHeartbeats 8000000 in
set_option maxRecDepth 100000 in
theorem less_lt_n (a b c : Int) (w : World) (hab : Aside0 (lt a b)) (hba : Aside0 (¬ lt b a)) (hbc : Aside0 (¬ lt b c)) (heq : (enc a == enc b) = false) :
    Calls Try.prog 9 #[.int .i64 a, .int .i64 b, .int .i64 c] w fun e w' => e = .returned (.bool true) ∧ Drawn0 w w' := by
  go_enter Try.func9, Try.ntmps9
  go_wp2_with (first | (go_at_call 12; (with_reducible refine (word_Int.calls a (enc a) _ (wInt a)).mono ?_); rintro e w' ⟨rfl, ⟨nd, rfl⟩⟩) | (go_at_call 12; (with_reducible refine (word_Int.calls b (enc b) _ (wInt b)).mono ?_); rintro e w' ⟨rfl, ⟨nd, rfl⟩⟩) | (go_at_call 31; (with_reducible refine (less_yes 1 2 _ lt_12).mono ?_); rintro e w' ⟨rfl, ⟨nd, rfl⟩⟩) | (go_at_call 31; (with_reducible refine (less_no 2 1 _ lt_21).mono ?_); rintro e w' ⟨rfl, ⟨nd, rfl⟩⟩) | (go_at_call 31; (with_reducible refine (less_no a a _ (lt_self a)).mono ?_); rintro e w' ⟨rfl, ⟨nd, rfl⟩⟩) | (go_at_call 31; (with_reducible refine (less_yes a b _ hab).mono ?_); rintro e w' ⟨rfl, ⟨nd, rfl⟩⟩) | (go_at_call 31; (with_reducible refine (less_no b a _ hba).mono ?_); rintro e w' ⟨rfl, ⟨nd, rfl⟩⟩) | (go_at_call 31; (with_reducible refine (less_no b c _ hbc).mono ?_); rintro e w' ⟨rfl, ⟨nd, rfl⟩⟩))
  go_ret
  exact ⟨by first | rfl | (simp; done) | (simp [*]; done), by repeat (first | exact Drawn0.refl _ | apply Drawn0.step)⟩
set_option maxHeartbeats 8000000 in
set_option maxRecDepth 100000 in
theorem less_lt_y (a b c : Int) (w : World) (hab : Aside0 (lt a b)) (hba : Aside0 (¬ lt b a)) (hbc : Aside0 (lt b c)) (hac : Aside0 (lt a c)) (heq : (enc a == enc b) = false) :
    Calls Try.prog 9 #[.int .i64 a, .int .i64 b, .int .i64 c] w fun e w' => e = .returned (.bool true) ∧ Drawn0 w w' := by
  go_enter Try.func9, Try.ntmps9
  go_wp2_with (first | (go_at_call 12; (with_reducible refine (word_Int.calls a (enc a) _ (wInt a)).mono ?_); rintro e w' ⟨rfl, ⟨nd, rfl⟩⟩) | (go_at_call 12; (with_reducible refine (word_Int.calls b (enc b) _ (wInt b)).mono ?_); rintro e w' ⟨rfl, ⟨nd, rfl⟩⟩) | (go_at_call 31; (with_reducible refine (less_yes 1 2 _ lt_12).mono ?_); rintro e w' ⟨rfl, ⟨nd, rfl⟩⟩) | (go_at_call 31; (with_reducible refine (less_no 2 1 _ lt_21).mono ?_); rintro e w' ⟨rfl, ⟨nd, rfl⟩⟩) | (go_at_call 31; (with_reducible refine (less_no a a _ (lt_self a)).mono ?_); rintro e w' ⟨rfl, ⟨nd, rfl⟩⟩) | (go_at_call 31; (with_reducible refine (less_yes a b _ hab).mono ?_); rintro e w' ⟨rfl, ⟨nd, rfl⟩⟩) | (go_at_call 31; (with_reducible refine (less_no b a _ hba).mono ?_); rintro e w' ⟨rfl, ⟨nd, rfl⟩⟩) | (go_at_call 31; (with_reducible refine (less_yes b c _ hbc).mono ?_); rintro e w' ⟨rfl, ⟨nd, rfl⟩⟩) | (go_at_call 31; (with_reducible refine (less_yes a c _ hac).mono ?_); rintro e w' ⟨rfl, ⟨nd, rfl⟩⟩))
  go_ret
  exact ⟨by first | rfl | (simp; done) | (simp [*]; done), by repeat (first | exact Drawn0.refl _ | apply Drawn0.step)⟩
theorem less_walk (a b c : Int) (w : World) :
    Calls Try.prog 9 #[.int .i64 a, .int .i64 b, .int .i64 c] w fun e w' => e = .returned (.bool true) ∧ Below w.heap.size w w' := by
  suffices h : Calls Try.prog 9 #[.int .i64 a, .int .i64 b, .int .i64 c] w fun e w' => e = .returned (.bool true) ∧ Drawn0 w w' from h.mono fun _ _ ⟨he, hd⟩ => ⟨he, hd.below⟩
  by_cases heq : enc a = enc b
  · have hc := enc_inj.mp heq
    have h1 : Aside0 (¬ lt a b) := ⟨by unfold lt; omega⟩
    have h2 : Aside0 (¬ lt b a) := ⟨by unfold lt; omega⟩
    by_cases hac : lt a c
    · exact less_eq_y a b c w h1 h2 ⟨hac⟩ ⟨by unfold lt at *; omega⟩ (beq_iff_eq.mpr heq)
    · exact less_eq_n a b c w h1 h2 ⟨hac⟩ ⟨by unfold lt at *; omega⟩ (beq_iff_eq.mpr heq)
  · have hc : cut a ≠ cut b := fun h => heq (enc_inj.mpr h)
    have hb : (enc a == enc b) = false := by simpa using heq
    by_cases hab : lt a b
    · have hba : Aside0 (¬ lt b a) := ⟨by unfold lt at *; omega⟩
      by_cases hbc : lt b c
      · exact less_lt_y a b c w ⟨hab⟩ hba ⟨hbc⟩ ⟨by unfold lt at *; omega⟩ hb
      · exact less_lt_n a b c w ⟨hab⟩ hba ⟨hbc⟩ hb
    · exact less_gt a b c w ⟨hab⟩ ⟨by unfold lt at *; omega⟩ hb
end Go.Proofs.Ytblianhdcnpgjaa.LessWalk
