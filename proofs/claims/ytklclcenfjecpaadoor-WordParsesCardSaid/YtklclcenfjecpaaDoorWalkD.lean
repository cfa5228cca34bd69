/- The walk of word.Parse: which number a text is, or what is wrong. -/
import Derived.Test.YtklclcenfjecpaaDoorWalkC
namespace Go.Proofs.YtklclcenfjecpaaDoor.DoorWalk
open Go.RowKit Go.Proofs.YtklclcenfjecpaaDoorW.PrintWords Go.Proofs.YtklclcenfjecpaaDoorW.PrintLast Go.Proofs.YtklclcenfjecpaaDoorW.PrintMore
open Go.Proofs.YtklclcenfjecpaaDoor.Num
theorem below_drewN2 {B : Nat} {w w' : World} (h : Below B w w') {n : Nat} : Below B w (w'.drewN n) := pw_below_drewN h n
def tenS : ByteArray := ⟨#[48, 49, 50, 51, 52, 53, 54, 55, 56, 57]⟩
set_option maxHeartbeats 8000000 in
set_option maxRecDepth 100000 in
theorem bad1 (s D : ByteArray) (M : Bool) (w : World)
    (hcut : Aside0 (Calls Tryd.prog 21 #[.string s, .string ⟨#[45]⟩] w fun e w' => e = .returned (.tuple #[.string D, .bool M]) ∧ w = w'))
    (h1 : D.toList = []) :
    Calls Tryd.prog 8 #[.string s] w fun e w' => e = .returned (.tuple #[.int .u64 0, .int .i64 5]) ∧ Below w.heap.size w w' := by
  go_enter Tryd.func8, Tryd.ntmps8
  go_wp2_with (first | (go_at_call 21; (with_reducible refine hcut.out.mono ?_); rintro e w' ⟨rfl, rfl⟩))
  go_ret2
  exact ⟨by first | rfl | (simp; done), Below.refl _ _⟩
set_option maxHeartbeats 8000000 in
set_option maxRecDepth 100000 in
theorem bad2 (s D T : ByteArray) (M : Bool) (w : World)
    (hcut : Aside0 (Calls Tryd.prog 21 #[.string s, .string ⟨#[45]⟩] w fun e w' => e = .returned (.tuple #[.string D, .bool M]) ∧ w = w'))
    (htrim : Aside0 (Calls Tryd.prog 22 #[.string D, .string tenS] w fun e w' => e = .returned (.string T) ∧ Below w.heap.size w w'))
    (h1b : D.toList.isEmpty = false)
    (h2 : ¬ T.toList = []) :
    Calls Tryd.prog 8 #[.string s] w fun e w' => e = .returned (.tuple #[.int .u64 0, .int .i64 5]) ∧ Below w.heap.size w w' := by
  go_enter Tryd.func8, Tryd.ntmps8
  go_wp2_with (first | (go_at_call 21; (with_reducible refine hcut.out.mono ?_); rintro e w' ⟨rfl, rfl⟩) | (go_at_call 22; (refine htrim.out.mono ?_); rintro e w1 ⟨rfl, hb1⟩))
  go_ret2
  exact ⟨by first | rfl | (simp; done), hb1⟩
set_option maxHeartbeats 8000000 in
set_option maxRecDepth 100000 in
theorem bad3 (s D T : ByteArray) (M : Bool) (w : World)
    (hcut : Aside0 (Calls Tryd.prog 21 #[.string s, .string ⟨#[45]⟩] w fun e w' => e = .returned (.tuple #[.string D, .bool M]) ∧ w = w'))
    (htrim : Aside0 (Calls Tryd.prog 22 #[.string D, .string tenS] w fun e w' => e = .returned (.string T) ∧ Below w.heap.size w w'))
    (h1b : D.toList.isEmpty = false)
    (h2 : T.toList = [])
    (h0 : 0 < D.size)
    (h3 : ((D[0].toNat : Int) == 48) = true)
    (h4 : decide (1 < (D.size : Int)) = true) :
    Calls Tryd.prog 8 #[.string s] w fun e w' => e = .returned (.tuple #[.int .u64 0, .int .i64 5]) ∧ Below w.heap.size w w' := by
  go_enter Tryd.func8, Tryd.ntmps8
  go_wp2_with (first | (go_at_call 21; (with_reducible refine hcut.out.mono ?_); rintro e w' ⟨rfl, rfl⟩) | (go_at_call 22; (refine htrim.out.mono ?_); rintro e w1 ⟨rfl, hb1⟩))
  go_ret2
  exact ⟨by first | rfl | (simp; done), hb1⟩
set_option maxHeartbeats 8000000 in
set_option maxRecDepth 100000 in
theorem bad4 (s D T : ByteArray)  (w : World)
    (hcut : Aside0 (Calls Tryd.prog 21 #[.string s, .string ⟨#[45]⟩] w fun e w' => e = .returned (.tuple #[.string D, .bool true]) ∧ w = w'))
    (htrim : Aside0 (Calls Tryd.prog 22 #[.string D, .string tenS] w fun e w' => e = .returned (.string T) ∧ Below w.heap.size w w'))
    (h1b : D.toList.isEmpty = false)
    (h2 : T.toList = [])
    (h0 : 0 < D.size)
    (h3 : ((D[0].toNat : Int) == 48) = true)
    (h4 : decide (1 < (D.size : Int)) = false) :
    Calls Tryd.prog 8 #[.string s] w fun e w' => e = .returned (.tuple #[.int .u64 0, .int .i64 5]) ∧ Below w.heap.size w w' := by
  go_enter Tryd.func8, Tryd.ntmps8
  go_wp2_with (first | (go_at_call 21; (with_reducible refine hcut.out.mono ?_); rintro e w' ⟨rfl, rfl⟩) | (go_at_call 22; (refine htrim.out.mono ?_); rintro e w1 ⟨rfl, hb1⟩))
  go_ret2
  exact ⟨by first | rfl | (simp; done), hb1⟩
set_option maxHeartbeats 8000000 in
set_option maxRecDepth 100000 in
theorem range1a (s D T : ByteArray) (M : Bool) (w : World)
    (hcut : Aside0 (Calls Tryd.prog 21 #[.string s, .string ⟨#[45]⟩] w fun e w' => e = .returned (.tuple #[.string D, .bool M]) ∧ w = w'))
    (htrim : Aside0 (Calls Tryd.prog 22 #[.string D, .string tenS] w fun e w' => e = .returned (.string T) ∧ Below w.heap.size w w'))
    (hpu : Aside0 (∀ w', Below w.heap.size w w' → Calls Tryd.prog 23 #[.string D, .int .i64 10, .int .i64 64] w' fun e w' => (∃ N : Nat, N = N ∧ e = .returned (.tuple #[.int .u64 18446744073709551615, .iface 72 (.pointer (some ⟨N, 0, none⟩))])) ∧ Below w.heap.size w w'))
    (h1b : D.toList.isEmpty = false)
    (h2 : T.toList = [])
    (h0 : 0 < D.size)
    (h3 : ((D[0].toNat : Int) == 48) = false) :
    Calls Tryd.prog 8 #[.string s] w fun e w' => e = .returned (.tuple #[.int .u64 0, .int .i64 2]) ∧ Below w.heap.size w w' := by
  go_enter Tryd.func8, Tryd.ntmps8
  go_wp2_with (first | (go_at_call 21; (with_reducible refine hcut.out.mono ?_); rintro e w' ⟨rfl, rfl⟩) | (go_at_call 22; (refine htrim.out.mono ?_); rintro e w1 ⟨rfl, hb1⟩) | (go_at_call 23; (refine (hpu.out _ (by assumption)).mono ?_); rintro e w2 ⟨⟨N, _, rfl⟩, hb2⟩))
  go_ret2
  exact ⟨by first | rfl | (simp; done), hb2⟩
set_option maxHeartbeats 8000000 in
set_option maxRecDepth 100000 in
theorem range2a (s D T : ByteArray) (M : Bool) (u : Nat) (w : World)
    (hcut : Aside0 (Calls Tryd.prog 21 #[.string s, .string ⟨#[45]⟩] w fun e w' => e = .returned (.tuple #[.string D, .bool M]) ∧ w = w'))
    (htrim : Aside0 (Calls Tryd.prog 22 #[.string D, .string tenS] w fun e w' => e = .returned (.string T) ∧ Below w.heap.size w w'))
    (hpu : Aside0 (∀ w', Below w.heap.size w w' → Calls Tryd.prog 23 #[.string D, .int .i64 10, .int .i64 64] w' fun e w' => (∃ N : Nat, N = N ∧ e = .returned (.tuple #[.int .u64 u, .nilIface])) ∧ Below w.heap.size w w'))
    (h1b : D.toList.isEmpty = false)
    (h2 : T.toList = [])
    (h0 : 0 < D.size)
    (h3 : ((D[0].toNat : Int) == 48) = false)
    (hu : decide (4611686018427387904 < (u : Int)) = true) :
    Calls Tryd.prog 8 #[.string s] w fun e w' => e = .returned (.tuple #[.int .u64 0, .int .i64 2]) ∧ Below w.heap.size w w' := by
  go_enter Tryd.func8, Tryd.ntmps8
  go_wp2_with (first | (go_at_call 21; (with_reducible refine hcut.out.mono ?_); rintro e w' ⟨rfl, rfl⟩) | (go_at_call 22; (refine htrim.out.mono ?_); rintro e w1 ⟨rfl, hb1⟩) | (go_at_call 23; (refine (hpu.out _ (by assumption)).mono ?_); rintro e w2 ⟨⟨N, _, rfl⟩, hb2⟩))
  go_ret2
  exact ⟨by first | rfl | (simp; done), hb2⟩
set_option maxHeartbeats 8000000 in
set_option maxRecDepth 100000 in
theorem range3a (s D T : ByteArray)  (u : Nat) (w : World)
    (hcut : Aside0 (Calls Tryd.prog 21 #[.string s, .string ⟨#[45]⟩] w fun e w' => e = .returned (.tuple #[.string D, .bool false]) ∧ w = w'))
    (htrim : Aside0 (Calls Tryd.prog 22 #[.string D, .string tenS] w fun e w' => e = .returned (.string T) ∧ Below w.heap.size w w'))
    (hpu : Aside0 (∀ w', Below w.heap.size w w' → Calls Tryd.prog 23 #[.string D, .int .i64 10, .int .i64 64] w' fun e w' => (∃ N : Nat, N = N ∧ e = .returned (.tuple #[.int .u64 u, .nilIface])) ∧ Below w.heap.size w w'))
    (h1b : D.toList.isEmpty = false)
    (h2 : T.toList = [])
    (h0 : 0 < D.size)
    (h3 : ((D[0].toNat : Int) == 48) = false)
    (hu : decide (4611686018427387904 < (u : Int)) = false)
    (hv : ((u : Int) == 4611686018427387904) = true) :
    Calls Tryd.prog 8 #[.string s] w fun e w' => e = .returned (.tuple #[.int .u64 0, .int .i64 2]) ∧ Below w.heap.size w w' := by
  go_enter Tryd.func8, Tryd.ntmps8
  go_wp2_with (first | (go_at_call 21; (with_reducible refine hcut.out.mono ?_); rintro e w' ⟨rfl, rfl⟩) | (go_at_call 22; (refine htrim.out.mono ?_); rintro e w1 ⟨rfl, hb1⟩) | (go_at_call 23; (refine (hpu.out _ (by assumption)).mono ?_); rintro e w2 ⟨⟨N, _, rfl⟩, hb2⟩))
  go_ret2
  exact ⟨by first | rfl | (simp; done), hb2⟩
set_option maxHeartbeats 8000000 in
set_option maxRecDepth 100000 in
theorem ok1a (s D T : ByteArray)  (u : Nat) (w : World)
    (hcut : Aside0 (Calls Tryd.prog 21 #[.string s, .string ⟨#[45]⟩] w fun e w' => e = .returned (.tuple #[.string D, .bool true]) ∧ w = w'))
    (htrim : Aside0 (Calls Tryd.prog 22 #[.string D, .string tenS] w fun e w' => e = .returned (.string T) ∧ Below w.heap.size w w'))
    (hpu : Aside0 (∀ w', Below w.heap.size w w' → Calls Tryd.prog 23 #[.string D, .int .i64 10, .int .i64 64] w' fun e w' => (∃ N : Nat, N = N ∧ e = .returned (.tuple #[.int .u64 u, .nilIface])) ∧ Below w.heap.size w w'))
    (h1b : D.toList.isEmpty = false)
    (h2 : T.toList = [])
    (h0 : 0 < D.size)
    (h3 : ((D[0].toNat : Int) == 48) = false)
    (hu : decide (4611686018427387904 < (u : Int)) = false)
    (hw : ((u : Int) == 4611686018427387904) = false)
    (hv : (u : Int) ≤ 4611686018427387904) :
    Calls Tryd.prog 8 #[.string s] w fun e w' => e = .returned (.tuple #[.int .u64 (enc (-(u : Int))), .int .i64 0]) ∧ Below w.heap.size w w' := by
  go_enter Tryd.func8, Tryd.ntmps8
  go_wp2_with (first | (go_at_call 21; (with_reducible refine hcut.out.mono ?_); rintro e w' ⟨rfl, rfl⟩) | (go_at_call 22; (refine htrim.out.mono ?_); rintro e w1 ⟨rfl, hb1⟩) | (go_at_call 23; (refine (hpu.out _ (by assumption)).mono ?_); rintro e w2 ⟨⟨N, _, rfl⟩, hb2⟩) | (go_at_call 10; (with_reducible refine (int_c _ _).mono ?_); rintro e w' ⟨rfl, ⟨nd, rfl⟩⟩))
  go_ret2
  exact ⟨by first | rfl | (simp; done), by repeat (first | exact hb2 | apply below_drewN2)⟩
set_option maxHeartbeats 8000000 in
set_option maxRecDepth 100000 in
theorem ok3a (s D T : ByteArray)  (w : World)
    (hcut : Aside0 (Calls Tryd.prog 21 #[.string s, .string ⟨#[45]⟩] w fun e w' => e = .returned (.tuple #[.string D, .bool true]) ∧ w = w'))
    (htrim : Aside0 (Calls Tryd.prog 22 #[.string D, .string tenS] w fun e w' => e = .returned (.string T) ∧ Below w.heap.size w w'))
    (hpu : Aside0 (∀ w', Below w.heap.size w w' → Calls Tryd.prog 23 #[.string D, .int .i64 10, .int .i64 64] w' fun e w' => (∃ N : Nat, N = N ∧ e = .returned (.tuple #[.int .u64 4611686018427387904, .nilIface])) ∧ Below w.heap.size w w'))
    (h1b : D.toList.isEmpty = false)
    (h2 : T.toList = [])
    (h0 : 0 < D.size)
    (h3 : ((D[0].toNat : Int) == 48) = false) :
    Calls Tryd.prog 8 #[.string s] w fun e w' => e = .returned (.tuple #[.int .u64 (enc (-4611686018427387904)), .int .i64 0]) ∧ Below w.heap.size w w' := by
  go_enter Tryd.func8, Tryd.ntmps8
  go_wp2_with (first | (go_at_call 21; (with_reducible refine hcut.out.mono ?_); rintro e w' ⟨rfl, rfl⟩) | (go_at_call 22; (refine htrim.out.mono ?_); rintro e w1 ⟨rfl, hb1⟩) | (go_at_call 23; (refine (hpu.out _ (by assumption)).mono ?_); rintro e w2 ⟨⟨N, _, rfl⟩, hb2⟩) | (go_at_call 10; (with_reducible refine (int_c _ _).mono ?_); rintro e w' ⟨rfl, ⟨nd, rfl⟩⟩))
  go_ret2
  exact ⟨by first | rfl | (simp; done), by repeat (first | exact hb2 | apply below_drewN2)⟩
set_option maxHeartbeats 8000000 in
set_option maxRecDepth 100000 in
theorem ok2a (s D T : ByteArray)  (u : Nat) (w : World)
    (hcut : Aside0 (Calls Tryd.prog 21 #[.string s, .string ⟨#[45]⟩] w fun e w' => e = .returned (.tuple #[.string D, .bool false]) ∧ w = w'))
    (htrim : Aside0 (Calls Tryd.prog 22 #[.string D, .string tenS] w fun e w' => e = .returned (.string T) ∧ Below w.heap.size w w'))
    (hpu : Aside0 (∀ w', Below w.heap.size w w' → Calls Tryd.prog 23 #[.string D, .int .i64 10, .int .i64 64] w' fun e w' => (∃ N : Nat, N = N ∧ e = .returned (.tuple #[.int .u64 u, .nilIface])) ∧ Below w.heap.size w w'))
    (h1b : D.toList.isEmpty = false)
    (h2 : T.toList = [])
    (h0 : 0 < D.size)
    (h3 : ((D[0].toNat : Int) == 48) = false)
    (hu : decide (4611686018427387904 < (u : Int)) = false)
    (hw : ((u : Int) == 4611686018427387904) = false)
    (hv : (u : Int) ≤ 4611686018427387904) :
    Calls Tryd.prog 8 #[.string s] w fun e w' => e = .returned (.tuple #[.int .u64 (enc (u : Int)), .int .i64 0]) ∧ Below w.heap.size w w' := by
  go_enter Tryd.func8, Tryd.ntmps8
  go_wp2_with (first | (go_at_call 21; (with_reducible refine hcut.out.mono ?_); rintro e w' ⟨rfl, rfl⟩) | (go_at_call 22; (refine htrim.out.mono ?_); rintro e w1 ⟨rfl, hb1⟩) | (go_at_call 23; (refine (hpu.out _ (by assumption)).mono ?_); rintro e w2 ⟨⟨N, _, rfl⟩, hb2⟩) | (go_at_call 10; (with_reducible refine (int_c _ _).mono ?_); rintro e w' ⟨rfl, ⟨nd, rfl⟩⟩))
  go_ret2
  exact ⟨by first | rfl | (simp; done), by repeat (first | exact hb2 | apply below_drewN2)⟩
set_option maxHeartbeats 8000000 in
set_option maxRecDepth 100000 in
theorem ok2b (s D T : ByteArray)  (u : Nat) (w : World)
    (hcut : Aside0 (Calls Tryd.prog 21 #[.string s, .string ⟨#[45]⟩] w fun e w' => e = .returned (.tuple #[.string D, .bool false]) ∧ w = w'))
    (htrim : Aside0 (Calls Tryd.prog 22 #[.string D, .string tenS] w fun e w' => e = .returned (.string T) ∧ Below w.heap.size w w'))
    (hpu : Aside0 (∀ w', Below w.heap.size w w' → Calls Tryd.prog 23 #[.string D, .int .i64 10, .int .i64 64] w' fun e w' => (∃ N : Nat, N = N ∧ e = .returned (.tuple #[.int .u64 u, .nilIface])) ∧ Below w.heap.size w w'))
    (h1b : D.toList.isEmpty = false)
    (h2 : T.toList = [])
    (h0 : 0 < D.size)
    (h3 : ((D[0].toNat : Int) == 48) = true)
    (h4 : decide (1 < (D.size : Int)) = false)
    (hu : decide (4611686018427387904 < (u : Int)) = false)
    (hw : ((u : Int) == 4611686018427387904) = false)
    (hv : (u : Int) ≤ 4611686018427387904) :
    Calls Tryd.prog 8 #[.string s] w fun e w' => e = .returned (.tuple #[.int .u64 (enc (u : Int)), .int .i64 0]) ∧ Below w.heap.size w w' := by
  go_enter Tryd.func8, Tryd.ntmps8
  go_wp2_with (first | (go_at_call 21; (with_reducible refine hcut.out.mono ?_); rintro e w' ⟨rfl, rfl⟩) | (go_at_call 22; (refine htrim.out.mono ?_); rintro e w1 ⟨rfl, hb1⟩) | (go_at_call 23; (refine (hpu.out _ (by assumption)).mono ?_); rintro e w2 ⟨⟨N, _, rfl⟩, hb2⟩) | (go_at_call 10; (with_reducible refine (int_c _ _).mono ?_); rintro e w' ⟨rfl, ⟨nd, rfl⟩⟩))
  go_ret2
  exact ⟨by first | rfl | (simp; done), by repeat (first | exact hb2 | apply below_drewN2)⟩
end Go.Proofs.YtklclcenfjecpaaDoor.DoorWalk
