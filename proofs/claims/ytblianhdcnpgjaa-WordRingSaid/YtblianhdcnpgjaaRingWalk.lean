/- The walks of the laws WordRing and WordLess, with their inner functions: what the calls come to, told by the printed functions word_Int.f and word_Do.f. -/
import Derived.Test.YtblianhdcnpgjaaPureWordDoes
namespace Go.Proofs.Ytblianhdcnpgjaa.RingWalk
open Go.RowKit Go.Proofs.Ytblianhdcnpgjaa.PWordDoes Go.Proofs.YtblianhdcnpgjaaW.PrintWords Go.Proofs.YtblianhdcnpgjaaW.PrintLast Go.Proofs.YtblianhdcnpgjaaW.PrintMore
open Go.Proofs.Ytblianhdcnpgjaa.Num Go.Proofs.Ytblianhdcnpgjaa.Pure
set_option maxHeartbeats 8000000 in
set_option maxRecDepth 100000 in
theorem do_calls (k : Nat) (op p q r : Int) (w : World) (h : word_Do.f k op p q = some (r, 0)) :
    Calls Try.prog 30 #[.int .i64 op, .int .u64 p, .int .u64 q] w fun e w' => e = .returned (.int .u64 r) ∧ Drawn0 w w' := by
  have A := Aside0.mk h
  clear h
  go_enter Try.func30, Try.ntmps30
  go_wp2_with (first | ((with_reducible refine gate_callee (f := 28) rfl ?_); refine goesL_ (some 13) rfl rfl Try.func28 (by kernel_rfl) rfl #[.int .i64 op, .int .u64 p, .int .u64 q] rfl (by (try simp only [List.map_toArray, List.map_cons, List.map_nil]); first | done | rfl) ?_; (with_reducible refine (word_Do.calls k op p q r 0 _ A.out).mono ?_); rintro e w' ⟨rfl, ⟨nd, rfl⟩⟩; refine ⟨_, rfl, ?_⟩))
  go_ret
  exact ⟨by first | rfl | (simp; done) | (simp [*]; done), by repeat (first | exact Drawn0.refl _ | apply Drawn0.step)⟩
set_option maxHeartbeats 8000000 in
set_option maxRecDepth 100000 in
theorem ring_calls (k : Nat) (a b c X Y Z S P T U V Q : Int) (w : World) (hx : word_Int.f a = some X) (hy : word_Int.f b = some Y) (hz : word_Int.f c = some Z) (h1 : word_Int.f 1 = some 3) (h0 : word_Int.f 0 = some 1)
    (d0 : word_Do.f k 1 X Y = some (S, 0)) (d1 : word_Do.f k 1 Y X = some (S, 0)) (d2 : word_Do.f k 3 X Y = some (P, 0)) (d3 : word_Do.f k 3 Y X = some (P, 0)) (d4 : word_Do.f k 1 S Z = some (T, 0)) (d5 : word_Do.f k 1 Y Z = some (U, 0)) (d6 : word_Do.f k 1 X U = some (T, 0)) (d7 : word_Do.f k 3 X U = some (V, 0)) (d8 : word_Do.f k 3 X Z = some (Q, 0)) (d9 : word_Do.f k 1 P Q = some (V, 0)) (d10 : word_Do.f k 2 S Y = some (X, 0)) (d11 : word_Do.f k 1 X 1 = some (X, 0)) (d12 : word_Do.f k 3 X 3 = some (X, 0)) :
    Calls Try.prog 7 #[.int .i64 a, .int .i64 b, .int .i64 c] w fun e w' => e = .returned (.bool true) ∧ Drawn0 w w' := by
  have AX := Aside0.mk hx
  have AY := Aside0.mk hy
  have AZ := Aside0.mk hz
  have A1 := Aside0.mk h1
  have A0 := Aside0.mk h0
  have D0 := Aside0.mk d0
  have D1 := Aside0.mk d1
  have D2 := Aside0.mk d2
  have D3 := Aside0.mk d3
  have D4 := Aside0.mk d4
  have D5 := Aside0.mk d5
  have D6 := Aside0.mk d6
  have D7 := Aside0.mk d7
  have D8 := Aside0.mk d8
  have D9 := Aside0.mk d9
  have D10 := Aside0.mk d10
  have D11 := Aside0.mk d11
  have D12 := Aside0.mk d12
  clear hx hy hz h1 h0 d0 d1 d2 d3 d4 d5 d6 d7 d8 d9 d10 d11 d12
  go_enter Try.func7, Try.ntmps7
  go_wp2_with (first | (go_at_call 12; (with_reducible refine (word_Int.calls a X _ AX.out).mono ?_); rintro e w' ⟨rfl, ⟨nd, rfl⟩⟩) | (go_at_call 12; (with_reducible refine (word_Int.calls b Y _ AY.out).mono ?_); rintro e w' ⟨rfl, ⟨nd, rfl⟩⟩) | (go_at_call 12; (with_reducible refine (word_Int.calls c Z _ AZ.out).mono ?_); rintro e w' ⟨rfl, ⟨nd, rfl⟩⟩) | (go_at_call 12; (with_reducible refine (word_Int.calls 1 3 _ A1.out).mono ?_); rintro e w' ⟨rfl, ⟨nd, rfl⟩⟩) | (go_at_call 12; (with_reducible refine (word_Int.calls 0 1 _ A0.out).mono ?_); rintro e w' ⟨rfl, ⟨nd, rfl⟩⟩) | (go_at_call 30; (with_reducible refine (do_calls k 1 X Y S _ D0.out).mono ?_); rintro e w' ⟨rfl, ⟨nd, rfl⟩⟩) | (go_at_call 30; (with_reducible refine (do_calls k 1 Y X S _ D1.out).mono ?_); rintro e w' ⟨rfl, ⟨nd, rfl⟩⟩) | (go_at_call 30; (with_reducible refine (do_calls k 3 X Y P _ D2.out).mono ?_); rintro e w' ⟨rfl, ⟨nd, rfl⟩⟩) | (go_at_call 30; (with_reducible refine (do_calls k 3 Y X P _ D3.out).mono ?_); rintro e w' ⟨rfl, ⟨nd, rfl⟩⟩) | (go_at_call 30; (with_reducible refine (do_calls k 1 S Z T _ D4.out).mono ?_); rintro e w' ⟨rfl, ⟨nd, rfl⟩⟩) | (go_at_call 30; (with_reducible refine (do_calls k 1 Y Z U _ D5.out).mono ?_); rintro e w' ⟨rfl, ⟨nd, rfl⟩⟩) | (go_at_call 30; (with_reducible refine (do_calls k 1 X U T _ D6.out).mono ?_); rintro e w' ⟨rfl, ⟨nd, rfl⟩⟩) | (go_at_call 30; (with_reducible refine (do_calls k 3 X U V _ D7.out).mono ?_); rintro e w' ⟨rfl, ⟨nd, rfl⟩⟩) | (go_at_call 30; (with_reducible refine (do_calls k 3 X Z Q _ D8.out).mono ?_); rintro e w' ⟨rfl, ⟨nd, rfl⟩⟩) | (go_at_call 30; (with_reducible refine (do_calls k 1 P Q V _ D9.out).mono ?_); rintro e w' ⟨rfl, ⟨nd, rfl⟩⟩) | (go_at_call 30; (with_reducible refine (do_calls k 2 S Y X _ D10.out).mono ?_); rintro e w' ⟨rfl, ⟨nd, rfl⟩⟩) | (go_at_call 30; (with_reducible refine (do_calls k 1 X 1 X _ D11.out).mono ?_); rintro e w' ⟨rfl, ⟨nd, rfl⟩⟩) | (go_at_call 30; (with_reducible refine (do_calls k 3 X 3 X _ D12.out).mono ?_); rintro e w' ⟨rfl, ⟨nd, rfl⟩⟩))
  go_ret
  exact ⟨by first | rfl | (simp; done) | (simp [*]; done), by repeat (first | exact Drawn0.refl _ | apply Drawn0.step)⟩
theorem ring_walk (a b c : Int) (w : World) :
    Calls Try.prog 7 #[.int .i64 a, .int .i64 b, .int .i64 c] w fun e w' => e = .returned (.bool true) ∧ Below w.heap.size w w' := by
  have e1 : enc 1 = 3 := rfl
  have e0 : enc 0 = 1 := rfl
  have add : ∀ p q r, p + q = r → word_Do.f 3 1 (enc p) (enc q) = some (enc r, 0) := by
    intro p q r h
    rw [wDo 0, num_enc, num_enc]
    show some (enc (cut p + cut q), (0 : Int)) = _
    rw [enc_cut2 h]
  have sub : ∀ p q r, p - q = r → word_Do.f 3 2 (enc p) (enc q) = some (enc r, 0) := by
    intro p q r h
    rw [wDo 0, num_enc, num_enc]
    show some (enc (cut p - cut q), (0 : Int)) = _
    have : enc (cut p - cut q) = enc r := by unfold enc cut; omega
    rw [this]
  have mul : ∀ p q r, p * q = r → word_Do.f 3 3 (enc p) (enc q) = some (enc r, 0) := by
    intro p q r h
    rw [wDo 0, num_enc, num_enc]
    show some (enc (cut p * cut q), (0 : Int)) = _
    have : enc (cut p * cut q) = enc r := by
      obtain ⟨x, hx⟩ := cut_form p
      obtain ⟨y, hy⟩ := cut_form q
      refine enc_of (c := x * q + p * y + 9223372036854775808 * (x * y)) ?_
      rw [hx, hy, ← h]
      simp only [Int.add_mul, Int.mul_add, Int.mul_assoc, Int.mul_left_comm _ 9223372036854775808]
      omega
    rw [this]
  have h := ring_calls 3 a b c (enc a) (enc b) (enc c) (enc (a + b)) (enc (a * b)) (enc (a + b + c)) (enc (b + c)) (enc (a * (b + c))) (enc (a * c)) w (wInt a) (wInt b) (wInt c) (by rw [wInt, e1]) (by rw [wInt, e0])
    (add _ _ _ rfl) (add _ _ _ (Int.add_comm b a)) (mul _ _ _ rfl) (mul _ _ _ (Int.mul_comm b a)) (add _ _ _ rfl) (add _ _ _ rfl) (add _ _ _ (Int.add_assoc a b c).symm) (mul _ _ _ rfl) (mul _ _ _ rfl) (add _ _ _ (Int.mul_add a b c).symm) (sub _ _ _ (by omega)) (by have := add a 0 a (by omega); rwa [e0] at this) (by have := mul a 1 a (by omega); rwa [e1] at this)
  exact h.mono fun _ _ ⟨he, hd⟩ => ⟨he, hd.below⟩
end Go.Proofs.Ytblianhdcnpgjaa.RingWalk
