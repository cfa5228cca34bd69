/- The walk of the law WordBack: numbers, headers, addresses, digits there and back. -/
import Derived.Test.YtklclcenfjecpaaDoorWalkE
namespace Go.Proofs.YtklclcenfjecpaaDoor.DoorWalk
open Go.RowKit Go.Proofs.YtklclcenfjecpaaDoorW.PrintWords Go.Proofs.YtklclcenfjecpaaDoorW.PrintLast Go.Proofs.YtklclcenfjecpaaDoorW.PrintMore
open Go.Proofs.YtklclcenfjecpaaDoor.Num
set_option maxHeartbeats 8000000 in
set_option maxRecDepth 100000 in
theorem head_c (t s : Int) (h0 : 0 ≤ t) (h1 : t ≤ 255) (h2 : 0 ≤ s) (h3 : s ≤ 2147483647) (w : World) : Calls Tryd.prog 11 #[.int .i64 t, .int .i64 s] w fun e w' => e = .returned (.int .u64 (enc (256 * s + t))) ∧ Drawn0 w w' := by
  have hk : Go.bits .or .i64 (s * 256) t = 256 * s + t := by
    have := or_head s.toNat t.toNat (by omega) (by omega)
    have e1 : ((256 * s.toNat : Nat) : Int) = s * 256 := by omega
    have e2 : (t.toNat : Int) = t := by omega
    rw [e1, e2] at this
    rw [this]; omega
  go_enter Tryd.func11, Tryd.ntmps11
  go_wp2_with (go_at_call 10; (with_reducible refine (int_c (256 * s + t) _).mono ?_); rintro e w' ⟨rfl, ⟨nd, rfl⟩⟩)
  go_ret
  exact ⟨rfl, by repeat (first | exact Drawn0.refl _ | apply Drawn0.step)⟩
set_option maxHeartbeats 8000000 in
set_option maxRecDepth 100000 in
theorem ptr_c (a : Int) (h0 : 0 ≤ a) (h1 : a ≤ 2147483647) (w : World) : Calls Tryd.prog 12 #[.int .i64 a] w fun e w' => e = .returned (.int .u64 (a * 2)) ∧ Drawn0 w w' := by
  go_enter Tryd.func12, Tryd.ntmps12
  go_wp2
  go_ret
  exact ⟨rfl, by repeat (first | exact Drawn0.refl _ | apply Drawn0.step)⟩
set_option maxHeartbeats 8000000 in
set_option maxRecDepth 100000 in
theorem parts_c (w1 n : Int) (hw : Aside0 (w1 = enc n)) (h0 : 0 ≤ n) (h1 : n ≤ 549755813887) (w : World) : Calls Tryd.prog 25 #[.int .u64 w1] w fun e w' => e = .returned (.tuple #[.int .i64 (n % 256), .int .i64 (n / 256)]) ∧ Drawn0 w w' := by
  have hnum : Aside0 (∀ w, Calls Tryd.prog 14 #[.int .u64 w1] w fun e w' => e = .returned (.int .i64 n) ∧ Drawn0 w w') := ⟨fun w => by
    have := num_c w1 w; rw [hw.out, num_enc, cut_in (by omega)] at this; rw [hw.out]; exact this⟩
  have his : Aside0 (∀ w, Calls Tryd.prog 13 #[.int .u64 w1] w fun e w' => e = .returned (.bool true) ∧ Drawn0 w w') := ⟨fun w => by
    have := isint_c w1 (by rw [hw.out]; exact enc_ge _) (by rw [hw.out]; exact enc_le _) w
    rw [hw.out, enc_odd] at this; rw [hw.out]; exact this⟩
  have hk : Go.bits .and .i64 n 255 = n % 256 := by
    have := and_255 n.toNat (by omega)
    rwa [show (n.toNat : Int) = n by omega] at this
  go_enter Tryd.func25, Tryd.ntmps25
  go_wp2_with (first | (go_at_call 14; (with_reducible refine (hnum.out _).mono ?_); rintro e w' ⟨rfl, ⟨nd, rfl⟩⟩) | (go_at_call 13; (with_reducible refine (his.out _).mono ?_); rintro e w' ⟨rfl, ⟨nd, rfl⟩⟩))
  go_ret2
  exact ⟨rfl, by repeat (first | exact Drawn0.refl _ | apply Drawn0.step)⟩
set_option maxHeartbeats 8000000 in
set_option maxRecDepth 100000 in
theorem tag_c (w1 n : Int) (hw : Aside0 (w1 = enc n)) (h0 : 0 ≤ n) (h1 : n ≤ 549755813887) (w : World) : Calls Tryd.prog 15 #[.int .u64 w1] w fun e w' => e = .returned (.int .i64 (n % 256)) ∧ Drawn0 w w' := by
  have hp := Aside0.mk (parts_c w1 n hw h0 h1)
  go_enter Tryd.func15, Tryd.ntmps15
  go_wp2_with (go_at_call 25; (with_reducible refine (hp.out _).mono ?_); rintro e w' ⟨rfl, ⟨nd, rfl⟩⟩)
  go_ret
  exact ⟨rfl, by repeat (first | exact Drawn0.refl _ | apply Drawn0.step)⟩
set_option maxHeartbeats 8000000 in
set_option maxRecDepth 100000 in
theorem size_c (w1 n : Int) (hw : Aside0 (w1 = enc n)) (h0 : 0 ≤ n) (h1 : n ≤ 549755813887) (w : World) : Calls Tryd.prog 16 #[.int .u64 w1] w fun e w' => e = .returned (.int .i64 (n / 256)) ∧ Drawn0 w w' := by
  have hp := Aside0.mk (parts_c w1 n hw h0 h1)
  go_enter Tryd.func16, Tryd.ntmps16
  go_wp2_with (go_at_call 25; (with_reducible refine (hp.out _).mono ?_); rintro e w' ⟨rfl, ⟨nd, rfl⟩⟩)
  go_ret
  exact ⟨rfl, by repeat (first | exact Drawn0.refl _ | apply Drawn0.step)⟩
set_option maxHeartbeats 8000000 in
set_option maxRecDepth 100000 in
theorem addr_c (a : Int) (h0 : 0 ≤ a) (h1 : a ≤ 2147483647) (w : World) : Calls Tryd.prog 17 #[.int .u64 (a * 2)] w fun e w' => e = .returned (.int .i64 a) ∧ Drawn0 w w' := by
  have his : Aside0 (∀ w, Calls Tryd.prog 13 #[.int .u64 (a * 2)] w fun e w' => e = .returned (.bool false) ∧ Drawn0 w w') := ⟨fun w => by
    have := isint_c (a * 2) (by omega) (by omega) w
    rwa [show (a * 2 % 2 == 1) = false by rw [beq_eq_false_iff_ne]; omega] at this⟩
  have hd : a * 2 / 2 = a := by omega
  go_enter Tryd.func17, Tryd.ntmps17
  go_wp2_with (go_at_call 13; (with_reducible refine (his.out _).mono ?_); rintro e w' ⟨rfl, ⟨nd, rfl⟩⟩)
  go_ret
  exact ⟨rfl, by repeat (first | exact Drawn0.refl _ | apply Drawn0.step)⟩
set_option maxHeartbeats 8000000 in
set_option maxRecDepth 100000 in
theorem back_any (n m t z X H P : Int) (D : ByteArray) (w : World) (t0 : 0 ≤ t) (t1 : t ≤ 255) (z0 : 0 ≤ z) (z1 : z ≤ 4294967295)
    (k0 : Aside0 (∀ w, Calls Tryd.prog 10 #[.int .i64 n] w fun e w' => e = .returned (.int .u64 X) ∧ Drawn0 w w'))
    (k1 : Aside0 (∀ w, Calls Tryd.prog 10 #[.int .i64 m] w fun e w' => e = .returned (.int .u64 X) ∧ Drawn0 w w'))
    (k4 : Aside0 (∀ w, Calls Tryd.prog 11 #[.int .i64 t, .int .i64 (z / 2)] w fun e w' => e = .returned (.int .u64 H) ∧ Drawn0 w w'))
    (k5 : Aside0 (∀ w, Calls Tryd.prog 12 #[.int .i64 (z / 2)] w fun e w' => e = .returned (.int .u64 P) ∧ Drawn0 w w'))
    (k6 : Aside0 (∀ w, Calls Tryd.prog 13 #[.int .u64 X] w fun e w' => e = .returned (.bool true) ∧ Drawn0 w w'))
    (k7 : Aside0 (∀ w, Calls Tryd.prog 13 #[.int .u64 H] w fun e w' => e = .returned (.bool true) ∧ Drawn0 w w'))
    (k8 : Aside0 (∀ w, Calls Tryd.prog 13 #[.int .u64 P] w fun e w' => e = .returned (.bool false) ∧ Drawn0 w w'))
    (k9 : Aside0 (∀ w, Calls Tryd.prog 14 #[.int .u64 X] w fun e w' => e = .returned (.int .i64 m) ∧ Drawn0 w w'))
    (k10 : Aside0 (∀ w, Calls Tryd.prog 15 #[.int .u64 H] w fun e w' => e = .returned (.int .i64 t) ∧ Drawn0 w w'))
    (k11 : Aside0 (∀ w, Calls Tryd.prog 16 #[.int .u64 H] w fun e w' => e = .returned (.int .i64 (z / 2)) ∧ Drawn0 w w'))
    (k12 : Aside0 (∀ w, Calls Tryd.prog 17 #[.int .u64 P] w fun e w' => e = .returned (.int .i64 (z / 2)) ∧ Drawn0 w w'))
    (k2 : Aside0 (∀ k, Calls Tryd.prog 6 #[.int .u64 X] (w.drewN k) fun e w' => e = .returned (.string D) ∧ Below w.heap.size w w'))
    (k3 : Aside0 (∀ w', Below w.heap.size w w' → Calls Tryd.prog 8 #[.string D] w' fun e w'' => e = .returned (.tuple #[.int .u64 X, .int .i64 0]) ∧ Below w.heap.size w w'')) :
    Calls Tryd.prog 5 #[.int .i64 n, .int .u8 t, .int .u32 z] w fun e w' => e = .returned (.bool true) ∧ Below w.heap.size w w' := by
  go_enter Tryd.func5, Tryd.ntmps5
  go_wp2_with (first | (go_at_call 10; (with_reducible refine (k0.out _).mono ?_); rintro e w' ⟨rfl, ⟨nd, rfl⟩⟩) | (go_at_call 10; (with_reducible refine (k1.out _).mono ?_); rintro e w' ⟨rfl, ⟨nd, rfl⟩⟩) | (go_at_call 11; (with_reducible refine (k4.out _).mono ?_); rintro e w' ⟨rfl, ⟨nd, rfl⟩⟩) | (go_at_call 12; (with_reducible refine (k5.out _).mono ?_); rintro e w' ⟨rfl, ⟨nd, rfl⟩⟩) | (go_at_call 13; (with_reducible refine (k6.out _).mono ?_); rintro e w' ⟨rfl, ⟨nd, rfl⟩⟩) | (go_at_call 13; (with_reducible refine (k7.out _).mono ?_); rintro e w' ⟨rfl, ⟨nd, rfl⟩⟩) | (go_at_call 13; (with_reducible refine (k8.out _).mono ?_); rintro e w' ⟨rfl, ⟨nd, rfl⟩⟩) | (go_at_call 14; (with_reducible refine (k9.out _).mono ?_); rintro e w' ⟨rfl, ⟨nd, rfl⟩⟩) | (go_at_call 15; (with_reducible refine (k10.out _).mono ?_); rintro e w' ⟨rfl, ⟨nd, rfl⟩⟩) | (go_at_call 16; (with_reducible refine (k11.out _).mono ?_); rintro e w' ⟨rfl, ⟨nd, rfl⟩⟩) | (go_at_call 17; (with_reducible refine (k12.out _).mono ?_); rintro e w' ⟨rfl, ⟨nd, rfl⟩⟩) | (go_at_call 6; (with_reducible refine (k2.out _).mono ?_); rintro e w1 ⟨rfl, hb1⟩) | (go_at_call 8; (refine (k3.out _ (by assumption)).mono ?_); rintro e w2 ⟨rfl, hb2⟩))
  go_ret
  exact ⟨by first | rfl | (simp; done), by repeat (first | exact hb2 | apply below_drewN2)⟩
theorem back_walk (n t z : Int) (w : World) (tp : TypeId) (p : Value) (t0 : 0 ≤ t) (t1 : t ≤ 255) (z0 : 0 ≤ z) (z1 : z ≤ 4294967295)
    (htab : Lib.TabIs Tryd.prog w "internal/strconv.uint64pow10" .u64 Lib.pow10Tab) (hvar : w.var? Tryd.prog "strconv.ErrRange" = some #[.iface tp p]) :
    Calls Tryd.prog 5 #[.int .i64 n, .int .u8 t, .int .u32 z] w fun e w' => e = .returned (.bool true) ∧ Below w.heap.size w w' := by
  have bd := cut_bd n
  have hH : Aside0 (enc (256 * (z / 2) + t) = enc (256 * (z / 2) + t)) := ⟨rfl⟩
  refine back_any n (cut n) t z (enc n) (enc (256 * (z / 2) + t)) (z / 2 * 2) (digS (cut n)) w t0 t1 z0 z1 ⟨int_c n⟩ ⟨fun w => ?_⟩ ⟨head_c t (z / 2) t0 t1 (by omega) (by omega)⟩ ⟨ptr_c (z / 2) (by omega) (by omega)⟩
    ⟨fun w => ?_⟩ ⟨fun w => ?_⟩ ⟨fun w => ?_⟩ ⟨fun w => ?_⟩ ⟨fun w => ?_⟩ ⟨fun w => ?_⟩ ⟨addr_c (z / 2) (by omega) (by omega)⟩ ⟨fun k => ?_⟩ ⟨fun w' hw' => ?_⟩
  · have := int_c (cut n) w; rwa [enc_cut] at this
  · have := isint_c (enc n) (enc_ge _) (enc_le _) w; rwa [enc_odd] at this
  · have := isint_c (enc (256 * (z / 2) + t)) (enc_ge _) (enc_le _) w; rwa [enc_odd] at this
  · have := isint_c (z / 2 * 2) (by omega) (by omega) w
    rwa [show (z / 2 * 2 % 2 == 1) = false by rw [beq_eq_false_iff_ne]; omega] at this
  · have := num_c (enc n) w; rwa [num_enc] at this
  · have := tag_c _ (256 * (z / 2) + t) hH (by omega) (by omega) w
    rwa [show (256 * (z / 2) + t) % 256 = t by omega] at this
  · have := size_c _ (256 * (z / 2) + t) hH (by omega) (by omega) w
    rwa [show (256 * (z / 2) + t) / 256 = z / 2 by omega] at this
  · have := word_digits (enc n) (w.drewN k) htab
    rw [num_enc] at this
    refine this.mono ?_
    rintro e w' ⟨he, hb⟩
    exact ⟨he, (below_drewN w k).trans (hb.mono (Nat.le_refl _))⟩
  · have hsz : (digS (cut n)).size ≤ 140737488351232 := by
      unfold digS
      show (Lib.itoa (cut n)).toArray.size ≤ _
      rw [List.size_toArray]
      unfold Lib.itoa
      have h1 := dec_size (cut n).natAbs 20 (by omega)
      have h2 := dec_size (cut n).toNat 20 (by omega)
      split
      · rw [List.length_cons]; omega
      · omega
    refine (word_parse (digS (cut n)) w' tp p hsz (var?_below hw' (by kernel_rfl : Tryd.prog.globalNamed "strconv.ErrRange" = some 2) (var_size (by kernel_rfl : Tryd.prog.globalNamed "strconv.ErrRange" = some 2) hvar) hvar)).mono ?_
    rintro e w'' ⟨he, hb⟩
    refine ⟨?_, hw'.trans (hb.mono hw'.size)⟩
    rw [he]
    have : parseN (digS (cut n)).data.toList = (enc (cut n), 0) := parse_itoa (cut n) bd.1 bd.2
    rw [this, enc_cut]
end Go.Proofs.YtklclcenfjecpaaDoor.DoorWalk
