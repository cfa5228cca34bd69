/- The walk of the law WordParses: program and reference read the same number out of a text, or find the same wrong. -/
import Derived.Test.YtklclcenfjecpaaDoorWalkF
namespace Go.Proofs.YtklclcenfjecpaaDoor.DoorWalk
open Go.RowKit Go.Proofs.YtklclcenfjecpaaDoorW.PrintWords Go.Proofs.YtklclcenfjecpaaDoorW.PrintLast Go.Proofs.YtklclcenfjecpaaDoorW.PrintMore
open Go.Proofs.YtklclcenfjecpaaDoor.Num
theorem errRange_named : Tryd.prog.globalNamed "strconv.ErrRange" = some 2 := by kernel_rfl
set_option maxHeartbeats 8000000 in
set_option maxRecDepth 100000 in
theorem parses_any (s : ByteArray) (a b : Int) (w : World)
    (h1 : Aside0 (Calls Tryd.prog 8 #[.string s] w fun e w' => e = .returned (.tuple #[.int .u64 a, .int .i64 b]) ∧ Below w.heap.size w w'))
    (h2 : Aside0 (∀ w, Calls Tryd.prog 9 #[.string s] w fun e w' => e = .returned (.tuple #[.int .u64 a, .int .i64 b]) ∧ Drawn0 w w'))
    (h3 : Aside0 (∀ w', Below w.heap.size w w' → Calls Tryd.prog 8 #[.string ⟨#[48, 49]⟩] w' fun e w'' => e = .returned (.tuple #[.int .u64 0, .int .i64 5]) ∧ Below w.heap.size w w'')) :
    Calls Tryd.prog 4 #[.string s] w fun e w' => e = .returned (.bool true) ∧ Below w.heap.size w w' := by
  go_enter Tryd.func4, Tryd.ntmps4
  go_wp2_with (first | (go_at_call 8; (with_reducible refine h1.out.mono ?_); rintro e w1 ⟨rfl, hb1⟩) | (go_at_call 9; (with_reducible refine (h2.out _).mono ?_); rintro e w' ⟨rfl, ⟨nd, rfl⟩⟩) | (go_at_call 8; (refine (h3.out _ (below_drewN2 (by assumption))).mono ?_); rintro e w2 ⟨rfl, hb2⟩))
  go_ret
  exact ⟨by first | rfl | (simp; done), hb2⟩
theorem parses_walk (s : ByteArray) (w : World) (tp : TypeId) (p : Value) (hz : s.size ≤ 140737488351232) (hvar : w.var? Tryd.prog "strconv.ErrRange" = some #[.iface tp p]) :
    Calls Tryd.prog 4 #[.string s] w fun e w' => e = .returned (.bool true) ∧ Below w.heap.size w w' := by
  refine parses_any s _ _ w ⟨word_parse s w tp p hz hvar⟩ ⟨fun w => ref_parse s w hz⟩ ⟨fun w' hw' => ?_⟩
  refine (word_parse ⟨#[48, 49]⟩ w' tp p (by decide) (var?_below hw' errRange_named (var_size errRange_named hvar) hvar)).mono ?_
  rintro e w'' ⟨he, hb⟩
  refine ⟨?_, hw'.trans (hb.mono hw'.size)⟩
  rw [he]
  have : parseN (⟨#[48, 49]⟩ : ByteArray).data.toList = (0, 5) := parse_01
  rw [this]
end Go.Proofs.YtklclcenfjecpaaDoor.DoorWalk
