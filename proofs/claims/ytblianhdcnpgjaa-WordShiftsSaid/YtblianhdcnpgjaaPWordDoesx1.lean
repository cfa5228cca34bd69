-- PRINTED BY print.sh 35421559b90ae4d0a3588c463048766b98c2df88dd9212a6774a882060cdf62d: not written by this session
import Derived.Test.YtblianhdcnpgjaaPWordDoesx0
namespace Go.Proofs.Ytblianhdcnpgjaa.PWordDoes
open Go.RowKit Go.Proofs.YtblianhdcnpgjaaW.PrintWords Go.Proofs.YtblianhdcnpgjaaW.PrintLast Go.Proofs.YtblianhdcnpgjaaW.PrintMore
attribute [local go_sem] max2_int min2_int max_two min_two max_three min_three max_four min_four   -- for this text's walks alone
set_option linter.unusedVariables false
set_option linter.unusedSimpArgs false

/-! ### word_Int: function 12 -/
def word_Int.f (a0 : Int) : Option (Int) := some (Go.bits .or .u64 (IntKind.u64.wrap ((IntKind.u64.wrap (a0)) * 2)) 1)
set_option maxHeartbeats 8000000 in
set_option maxRecDepth 100000 in
theorem word_Int.calls (a0 : Int) (r : Int) (w : World) (h : word_Int.f a0 = some r) :
    Calls Try.prog 12 #[.int .i64 a0] w fun e w' => e = .returned (.int .u64 r) ∧ Drawn0 w w' := by
  have H : (some (Go.bits .or .u64 (IntKind.u64.wrap ((IntKind.u64.wrap (a0)) * 2)) 1)) = some r := h
  clear h
  obtain rfl := Option.some.inj H
  go_enter Try.func12, Try.ntmps12
  go_wp2
  go_ret
  exact ⟨by first | rfl | (simp; done) | (simp [*]; done), by repeat (first | exact Drawn0.refl _ | apply Drawn0.step)⟩

/-! ### word_Num: function 14 -/
def word_Num.f (a0 : Int) : Option (Int) := some ((wrap64 (a0)) / 2)
set_option maxHeartbeats 8000000 in
set_option maxRecDepth 100000 in
theorem word_Num.calls (a0 : Int) (r : Int) (w : World) (h : word_Num.f a0 = some r) :
    Calls Try.prog 14 #[.int .u64 a0] w fun e w' => e = .returned (.int .i64 r) ∧ Drawn0 w w' := by
  have H : (some ((wrap64 (a0)) / 2)) = some r := h
  clear h
  obtain rfl := Option.some.inj H
  go_enter Try.func14, Try.ntmps14
  go_wp2
  go_ret
  exact ⟨by first | rfl | (simp; done) | (simp [*]; done), by repeat (first | exact Drawn0.refl _ | apply Drawn0.step)⟩

/-! ### word_shifted: function 34 -/
mutual
def word_shifted.j0 : Nat → Int → Int → Bool → Bool → Option (Int)
  | 0, _, _, _, _ => none
  | k + 1, x0, x1, x2, x7 => if x2 = true then (word_shifted.j1 k x0 x1 x2 x7 x7) else (word_shifted.j1 k x0 x1 x2 x7 false)
def word_shifted.j1 : Nat → Int → Int → Bool → Bool → Bool → Option (Int)
  | 0, _, _, _, _, _ => none
  | k + 1, x0, x1, x2, x7, x14 => if x14 = true then (some 0) else (if x2 = true then (if 0 ≤ x1 then (some (shl .i64 x0 x1)) else (none)) else (if x7 = true then (some (x0 / 4611686018427387904)) else (if 0 ≤ x1 then (some (shr .i64 x0 x1)) else (none))))
end
def word_shifted.f (k : Nat) (a0 : Int) (a1 : Int) (a2 : Bool) : Option (Int) := if a1 < 0 then (word_shifted.j0 k a0 a1 a2 true) else (word_shifted.j0 k a0 a1 a2 (decide (a1 > 62)))
theorem word_shifted.mono_l : ∀ k, (∀ y0 y1 y2 y3, LeO (word_shifted.j0 k y0 y1 y2 y3) (word_shifted.j0 (k + 1) y0 y1 y2 y3)) ∧ (∀ y0 y1 y2 y3 y4, LeO (word_shifted.j1 k y0 y1 y2 y3 y4) (word_shifted.j1 (k + 1) y0 y1 y2 y3 y4))
  | 0 => ⟨fun _ _ _ _ r h => by simp [word_shifted.j0] at h, fun _ _ _ _ _ r h => by simp [word_shifted.j1] at h⟩
  | k + 1 => by
    obtain ⟨ih0, ih1⟩ := word_shifted.mono_l k
    refine ⟨?_, ?_⟩
    · intro y0 y1 y2 y3
      unfold word_shifted.j0
      repeat' first
      | (with_reducible exact ih0 _ _ _ _)
      | (with_reducible exact ih1 _ _ _ _ _)
      | (with_reducible exact LeO.refl _)
      | (with_reducible exact LeO.none _)
      | (with_reducible refine LeO.ite ?_ ?_)
      | (with_reducible refine LeO.bind ?_ (fun _ => ?_))
      | exact ih0 _ _ _ _
      | exact ih1 _ _ _ _ _
      | exact LeO.none _
      | refine LeO.ite ?_ ?_
      | refine LeO.bind ?_ (fun _ => ?_)
    · intro y0 y1 y2 y3 y4
      unfold word_shifted.j1
      repeat' first
      | (with_reducible exact ih0 _ _ _ _)
      | (with_reducible exact ih1 _ _ _ _ _)
      | (with_reducible exact LeO.refl _)
      | (with_reducible exact LeO.none _)
      | (with_reducible refine LeO.ite ?_ ?_)
      | (with_reducible refine LeO.bind ?_ (fun _ => ?_))
      | exact ih0 _ _ _ _
      | exact ih1 _ _ _ _ _
      | exact LeO.none _
      | refine LeO.ite ?_ ?_
      | refine LeO.bind ?_ (fun _ => ?_)
theorem word_shifted.mono : ∀ a0 a1 a2 k, LeO (word_shifted.f k a0 a1 a2) (word_shifted.f (k + 1) a0 a1 a2) := by
  intro a0 a1 a2 k
  obtain ⟨ih0, ih1⟩ := word_shifted.mono_l k
  unfold word_shifted.f
  repeat' first
      | (with_reducible exact ih0 _ _ _ _)
      | (with_reducible exact ih1 _ _ _ _ _)
      | (with_reducible exact LeO.refl _)
      | (with_reducible exact LeO.none _)
      | (with_reducible refine LeO.ite ?_ ?_)
      | (with_reducible refine LeO.bind ?_ (fun _ => ?_))
      | exact ih0 _ _ _ _
      | exact ih1 _ _ _ _ _
      | exact LeO.none _
      | refine LeO.ite ?_ ?_
      | refine LeO.bind ?_ (fun _ => ?_)
set_option maxHeartbeats 8000000 in
set_option maxRecDepth 100000 in
theorem word_shifted.calls (k : Nat) (a0 : Int) (a1 : Int) (a2 : Bool) (r : Int) (w : World) (h : word_shifted.f k a0 a1 a2 = some r) :
    Calls Try.prog 34 #[.int .i64 a0, .int .i64 a1, .bool a2] w fun e w' => e = .returned (.int .i64 r) ∧ Drawn0 w w' := by
  have H : (if a1 < 0 then (word_shifted.j0 k a0 a1 a2 true) else (word_shifted.j0 k a0 a1 a2 (decide (a1 > 62)))) = some r := h
  clear h
  have HC4 := Aside0.mk H
  clear H
  go_enter Try.func34, Try.ntmps34
  go_upto_region 1 with (fail)
  go_cut [7] (fun v7 wc => ∃ (kq : Nat) (x7_3 : Bool), v7 = .bool x7_3 ∧ Aside0 (word_shifted.j0 kq a0 a1 a2 x7_3 = some r) ∧ Aside0 (kq ≤ k) ∧ Drawn0 w wc)
  case first =>
    have H := HC4.out
    clear HC4
    by_cases c5 : a1 < 0
    · rw [if_pos c5] at H
      have c5b0 : decide (a1 < 0) = true := decide_eq_true c5
      clear c5
      (first | rw [c5b0] | (simp only [i64_w, i32_w]; rw [c5b0]) | skip)
      have H' := Aside0.mk H
      clear H
      go_wp2
      go_meet
      case rel => exact ⟨_, (true), (by first | rfl | (simp; done) | (simp [*]; done)), H', ⟨by first | omega | exact Nat.le_refl _⟩, by repeat (first | exact Drawn0.refl _ | apply Drawn0.step)⟩
    · rw [if_neg c5] at H
      have c5b0 : decide (a1 < 0) = false := decide_eq_false c5
      clear c5
      (first | rw [c5b0] | (simp only [i64_w, i32_w]; rw [c5b0]) | skip)
      have H' := Aside0.mk H
      clear H
      go_wp2
      go_meet
      case rel => exact ⟨_, (decide (a1 > 62)), (by first | rfl | (simp; done) | (simp [*]; done)), H', ⟨by first | omega | exact Nat.le_refl _⟩, by repeat (first | exact Drawn0.refl _ | apply Drawn0.step)⟩
  case rest =>
    clear HC4
    try clear p2
    try clear c3
    try clear c5
    try clear c5b0
    obtain ⟨kq, x7_3, rfl, HA, HJ3, ⟨mc3, rfl⟩⟩ := hcut
    cases kq with
    | zero => exact absurd HA.out (by simp [word_shifted.j0])
    | succ kj3 =>
      have H := HA.out
      clear HA
      simp only [word_shifted.j0] at H
      have HC6 := Aside0.mk H
      clear H
      go_upto_region 2 with (fail)
      go_cut [14] (fun v14 wc => ∃ (kq : Nat) (x14_5 : Bool), v14 = .bool x14_5 ∧ Aside0 (word_shifted.j1 kq a0 a1 a2 x7_3 x14_5 = some r) ∧ Aside0 (kq ≤ kj3) ∧ Drawn0 w wc)
      case first =>
        have H := HC6.out
        clear HC6
        by_cases c7 : a2 = true
        · subst c7
          have H1 : (word_shifted.j1 kj3 a0 a1 true x7_3 x7_3) = some r := by rw [if_pos rfl] at H; exact H
          clear H
          have H := H1
          clear H1
          have H' := Aside0.mk H
          clear H
          go_wp2
          go_meet
          case rel => exact ⟨_, (x7_3), (by first | rfl | (simp; done) | (simp [*]; done)), H', ⟨by have := HJ3.out; first | omega | exact Nat.le_refl _⟩, by repeat (first | exact Drawn0.refl _ | apply Drawn0.step)⟩
        · replace c7 := Bool.eq_false_iff.mpr c7
          subst c7
          have H1 : (word_shifted.j1 kj3 a0 a1 false x7_3 false) = some r := by rw [if_neg (show ¬ (false = true) by decide)] at H; exact H
          clear H
          have H := H1
          clear H1
          have H' := Aside0.mk H
          clear H
          go_wp2
          go_meet
          case rel => exact ⟨_, (false), (by first | rfl | (simp; done) | (simp [*]; done)), H', ⟨by have := HJ3.out; first | omega | exact Nat.le_refl _⟩, by repeat (first | exact Drawn0.refl _ | apply Drawn0.step)⟩
      case rest =>
        clear HC6
        try clear p2
        try clear c3
        try clear c5
        try clear c5b0
        try clear c7
        try clear p2
        obtain ⟨kq, x14_5, rfl, HA, HJ5, ⟨mc5, rfl⟩⟩ := hcut
        cases kq with
        | zero => exact absurd HA.out (by simp [word_shifted.j1])
        | succ kj5 =>
          have H := HA.out
          clear HA
          simp only [word_shifted.j1] at H
          by_cases c8 : x14_5 = true
          · subst c8
            have H1 : (some 0) = some r := by rw [if_pos rfl] at H; exact H
            clear H
            have H := H1
            clear H1
            obtain rfl := Option.some.inj H
            go_wp2
            go_ret
            exact ⟨by first | rfl | (simp; done) | (simp [*]; done), by repeat (first | exact Drawn0.refl _ | apply Drawn0.step)⟩
          · replace c8 := Bool.eq_false_iff.mpr c8
            subst c8
            have H1 : (if a2 = true then (if 0 ≤ a1 then (some (shl .i64 a0 a1)) else (none)) else (if x7_3 = true then (some (a0 / 4611686018427387904)) else (if 0 ≤ a1 then (some (shr .i64 a0 a1)) else (none)))) = some r := by rw [if_neg (show ¬ (false = true) by decide)] at H; exact H
            clear H
            have H := H1
            clear H1
            by_cases c9 : a2 = true
            · subst c9
              have H1 : (if 0 ≤ a1 then (some (shl .i64 a0 a1)) else (none)) = some r := by rw [if_pos rfl] at H; exact H
              clear H
              have H := H1
              clear H1
              by_cases c10 : 0 ≤ a1
              · rw [if_pos c10] at H
                have c10b0 := eq_true c10
                have c10b1 : decide (0 ≤ a1) = true := decide_eq_true c10
                clear c10
                obtain ⟨ji11, hji11⟩ : ∃ j_ : Int, (shl .i64 a0 a1) = j_ := ⟨_, rfl⟩
                replace H : (some ji11) = some r := by first | (rw [hji11] at H; exact H) | (simp only [hji11] at H ⊢; exact H)
                have hji11_ : (IntKind.i64.wrap (a0 * 2 ^ min a1.toNat 64)) = ji11 := hji11
                have hji11z : a1 ≤ 64 → (IntKind.i64.wrap (a0 * 2 ^ a1.toNat)) = ji11 := shl_small hji11
                have hji11y : (wrap64 (a0 * 2 ^ min a1.toNat 64)) = ji11 := (i64_w _).symm.trans hji11_
                have hji11x : a1 ≤ 64 → (wrap64 (a0 * 2 ^ a1.toNat)) = ji11 := fun h_ => (i64_w _).symm.trans (hji11z h_)
                obtain rfl := Option.some.inj H
                go_wp2
                go_ret
                exact ⟨by first | rfl | (simp; done) | (simp only [← hji11] <;> (first | rfl | simp)) | (simp [*]; done), by repeat (first | exact Drawn0.refl _ | apply Drawn0.step)⟩
              · rw [if_neg c10] at H
                exact absurd H (by simp)
            · replace c9 := Bool.eq_false_iff.mpr c9
              subst c9
              have H1 : (if x7_3 = true then (some (a0 / 4611686018427387904)) else (if 0 ≤ a1 then (some (shr .i64 a0 a1)) else (none))) = some r := by rw [if_neg (show ¬ (false = true) by decide)] at H; exact H
              clear H
              have H := H1
              clear H1
              by_cases c12 : x7_3 = true
              · subst c12
                have H1 : (some (a0 / 4611686018427387904)) = some r := by rw [if_pos rfl] at H; exact H
                clear H
                have H := H1
                clear H1
                obtain rfl := Option.some.inj H
                go_wp2
                go_ret
                exact ⟨by first | rfl | (simp; done) | (simp [*]; done), by repeat (first | exact Drawn0.refl _ | apply Drawn0.step)⟩
              · replace c12 := Bool.eq_false_iff.mpr c12
                subst c12
                have H1 : (if 0 ≤ a1 then (some (shr .i64 a0 a1)) else (none)) = some r := by rw [if_neg (show ¬ (false = true) by decide)] at H; exact H
                clear H
                have H := H1
                clear H1
                by_cases c13 : 0 ≤ a1
                · rw [if_pos c13] at H
                  have c13b0 := eq_true c13
                  have c13b1 : decide (0 ≤ a1) = true := decide_eq_true c13
                  clear c13
                  obtain ⟨ji14, hji14⟩ : ∃ j_ : Int, (shr .i64 a0 a1) = j_ := ⟨_, rfl⟩
                  replace H : (some ji14) = some r := by first | (rw [hji14] at H; exact H) | (simp only [hji14] at H ⊢; exact H)
                  have hji14_ : (a0 / 2 ^ min a1.toNat 64) = ji14 := hji14
                  have hji14z : a1 ≤ 64 → (a0 / 2 ^ a1.toNat) = ji14 := shr_small hji14
                  obtain rfl := Option.some.inj H
                  go_wp2
                  go_ret
                  exact ⟨by first | rfl | (simp; done) | (simp only [← hji14] <;> (first | rfl | simp)) | (simp [*]; done), by repeat (first | exact Drawn0.refl _ | apply Drawn0.step)⟩
                · rw [if_neg c13] at H
                  exact absurd H (by simp)

/-! ### word_Do: function 28 -/
mutual
def word_Do.j1 : Nat → Int → Int → Option (Int × Int)
  | 0, _, _ => none
  | k + 1, x8, x9 => if x9 = 0 then (some (0, 2)) else ((word_Int.f (Int.tmod x8 x9)).bind fun t111 => (some (t111, 0)))
def word_Do.j0 : Nat → Int → Int → Int → Int → Bool → Option (Int × Int)
  | 0, _, _, _, _, _ => none
  | k + 1, x0, x8, x9, x14, x31 => if x31 = true then ((word_shifted.f k x8 x9 (x0 == 9)).bind fun t108 => ((word_Int.f t108).bind fun t109 => (some (t109, 0)))) else (if x14 = 11 then (if x8 < x9 then ((word_Int.f 1).bind fun t113 => (some (t113, 0))) else ((word_Int.f 0).bind fun t114 => (some (t114, 0)))) else (some (0, 1)))
end
def word_Do.f (k : Nat) (a0 : Int) (a1 : Int) (a2 : Int) : Option (Int × Int) := (word_Num.f a1).bind fun t101 => ((word_Num.f a2).bind fun t102 => (if a0 = 1 then ((word_Int.f (wrap64 (t101 + t102))).bind fun t103 => (some (t103, 0))) else (if a0 = 2 then ((word_Int.f (wrap64 (t101 - t102))).bind fun t104 => (some (t104, 0))) else (if a0 = 3 then ((word_Int.f (wrap64 (t101 * t102))).bind fun t110 => (some (t110, 0))) else (if a0 = 4 then (if t102 = 0 then (word_Do.j1 k t101 t102) else ((word_Int.f (wrap64 (Int.tdiv t101 t102))).bind fun t105 => (some (t105, 0)))) else (if a0 = 5 then (word_Do.j1 k t101 t102) else (if a0 = 6 then ((word_Int.f (Go.bits .and .i64 t101 t102)).bind fun t106 => (some (t106, 0))) else (if a0 = 7 then ((word_Int.f (Go.bits .or .i64 t101 t102)).bind fun t112 => (some (t112, 0))) else (if a0 = 8 then ((word_Int.f (Go.bits .xor .i64 t101 t102)).bind fun t107 => (some (t107, 0))) else (if a0 = 9 then (word_Do.j0 k a0 t101 t102 a0 (a0 == 9)) else (word_Do.j0 k a0 t101 t102 a0 (a0 == 10))))))))))))
theorem word_Do.mono_l : ∀ k, (∀ y0 y1, LeO (word_Do.j1 k y0 y1) (word_Do.j1 (k + 1) y0 y1)) ∧ (∀ y0 y1 y2 y3 y4, LeO (word_Do.j0 k y0 y1 y2 y3 y4) (word_Do.j0 (k + 1) y0 y1 y2 y3 y4))
  | 0 => ⟨fun _ _ r h => by simp [word_Do.j1] at h, fun _ _ _ _ _ r h => by simp [word_Do.j0] at h⟩
  | k + 1 => by
    obtain ⟨ih0, ih1⟩ := word_Do.mono_l k
    refine ⟨?_, ?_⟩
    · intro y0 y1
      unfold word_Do.j1
      repeat' first
      | (with_reducible exact ih0 _ _)
      | (with_reducible exact ih1 _ _ _ _ _)
      | (with_reducible exact word_shifted.mono _ _ _ _)
      | (with_reducible exact LeO.refl _)
      | (with_reducible exact LeO.none _)
      | (with_reducible refine LeO.ite ?_ ?_)
      | (with_reducible refine LeO.bind ?_ (fun _ => ?_))
      | exact ih0 _ _
      | exact ih1 _ _ _ _ _
      | exact word_shifted.mono _ _ _ _
      | exact LeO.none _
      | refine LeO.ite ?_ ?_
      | refine LeO.bind ?_ (fun _ => ?_)
    · intro y0 y1 y2 y3 y4
      unfold word_Do.j0
      repeat' first
      | (with_reducible exact ih0 _ _)
      | (with_reducible exact ih1 _ _ _ _ _)
      | (with_reducible exact word_shifted.mono _ _ _ _)
      | (with_reducible exact LeO.refl _)
      | (with_reducible exact LeO.none _)
      | (with_reducible refine LeO.ite ?_ ?_)
      | (with_reducible refine LeO.bind ?_ (fun _ => ?_))
      | exact ih0 _ _
      | exact ih1 _ _ _ _ _
      | exact word_shifted.mono _ _ _ _
      | exact LeO.none _
      | refine LeO.ite ?_ ?_
      | refine LeO.bind ?_ (fun _ => ?_)
theorem word_Do.mono : ∀ a0 a1 a2 k, LeO (word_Do.f k a0 a1 a2) (word_Do.f (k + 1) a0 a1 a2) := by
  intro a0 a1 a2 k
  obtain ⟨ih0, ih1⟩ := word_Do.mono_l k
  unfold word_Do.f
  repeat' first
      | (with_reducible exact ih0 _ _)
      | (with_reducible exact ih1 _ _ _ _ _)
      | (with_reducible exact word_shifted.mono _ _ _ _)
      | (with_reducible exact LeO.refl _)
      | (with_reducible exact LeO.none _)
      | (with_reducible refine LeO.ite ?_ ?_)
      | (with_reducible refine LeO.bind ?_ (fun _ => ?_))
      | exact ih0 _ _
      | exact ih1 _ _ _ _ _
      | exact word_shifted.mono _ _ _ _
      | exact LeO.none _
      | refine LeO.ite ?_ ?_
      | refine LeO.bind ?_ (fun _ => ?_)
set_option maxHeartbeats 8000000 in
set_option maxRecDepth 100000 in
theorem word_Do.calls (k : Nat) (a0 : Int) (a1 : Int) (a2 : Int) (r1 : Int) (r2 : Int) (w : World) (h : word_Do.f k a0 a1 a2 = some (r1, r2)) :
    Calls Try.prog 28 #[.int .i64 a0, .int .u64 a1, .int .u64 a2] w fun e w' => e = .returned (.tuple #[.int .u64 r1, .int .i64 r2]) ∧ Drawn0 w w' := by
  have H : ((word_Num.f a1).bind fun t101 => ((word_Num.f a2).bind fun t102 => (if a0 = 1 then ((word_Int.f (wrap64 (t101 + t102))).bind fun t103 => (some (t103, 0))) else (if a0 = 2 then ((word_Int.f (wrap64 (t101 - t102))).bind fun t104 => (some (t104, 0))) else (if a0 = 3 then ((word_Int.f (wrap64 (t101 * t102))).bind fun t110 => (some (t110, 0))) else (if a0 = 4 then (if t102 = 0 then (word_Do.j1 k t101 t102) else ((word_Int.f (wrap64 (Int.tdiv t101 t102))).bind fun t105 => (some (t105, 0)))) else (if a0 = 5 then (word_Do.j1 k t101 t102) else (if a0 = 6 then ((word_Int.f (Go.bits .and .i64 t101 t102)).bind fun t106 => (some (t106, 0))) else (if a0 = 7 then ((word_Int.f (Go.bits .or .i64 t101 t102)).bind fun t112 => (some (t112, 0))) else (if a0 = 8 then ((word_Int.f (Go.bits .xor .i64 t101 t102)).bind fun t107 => (some (t107, 0))) else (if a0 = 9 then (word_Do.j0 k a0 t101 t102 a0 (a0 == 9)) else (word_Do.j0 k a0 t101 t102 a0 (a0 == 10))))))))))))) = some (r1, r2) := h
  clear h
  replace H := Option.bind_eq_some_iff.mp H
  obtain ⟨t101, A40, H⟩ := H
  replace H : ((word_Num.f a2).bind fun t102 => (if a0 = 1 then ((word_Int.f (wrap64 (t101 + t102))).bind fun t103 => (some (t103, 0))) else (if a0 = 2 then ((word_Int.f (wrap64 (t101 - t102))).bind fun t104 => (some (t104, 0))) else (if a0 = 3 then ((word_Int.f (wrap64 (t101 * t102))).bind fun t110 => (some (t110, 0))) else (if a0 = 4 then (if t102 = 0 then (word_Do.j1 k t101 t102) else ((word_Int.f (wrap64 (Int.tdiv t101 t102))).bind fun t105 => (some (t105, 0)))) else (if a0 = 5 then (word_Do.j1 k t101 t102) else (if a0 = 6 then ((word_Int.f (Go.bits .and .i64 t101 t102)).bind fun t106 => (some (t106, 0))) else (if a0 = 7 then ((word_Int.f (Go.bits .or .i64 t101 t102)).bind fun t112 => (some (t112, 0))) else (if a0 = 8 then ((word_Int.f (Go.bits .xor .i64 t101 t102)).bind fun t107 => (some (t107, 0))) else (if a0 = 9 then (word_Do.j0 k a0 t101 t102 a0 (a0 == 9)) else (word_Do.j0 k a0 t101 t102 a0 (a0 == 10)))))))))))) = some (r1, r2) := H
  have A4 := Aside0.mk A40
  clear A40
  replace H := Option.bind_eq_some_iff.mp H
  obtain ⟨t102, A50, H⟩ := H
  replace H : (if a0 = 1 then ((word_Int.f (wrap64 (t101 + t102))).bind fun t103 => (some (t103, 0))) else (if a0 = 2 then ((word_Int.f (wrap64 (t101 - t102))).bind fun t104 => (some (t104, 0))) else (if a0 = 3 then ((word_Int.f (wrap64 (t101 * t102))).bind fun t110 => (some (t110, 0))) else (if a0 = 4 then (if t102 = 0 then (word_Do.j1 k t101 t102) else ((word_Int.f (wrap64 (Int.tdiv t101 t102))).bind fun t105 => (some (t105, 0)))) else (if a0 = 5 then (word_Do.j1 k t101 t102) else (if a0 = 6 then ((word_Int.f (Go.bits .and .i64 t101 t102)).bind fun t106 => (some (t106, 0))) else (if a0 = 7 then ((word_Int.f (Go.bits .or .i64 t101 t102)).bind fun t112 => (some (t112, 0))) else (if a0 = 8 then ((word_Int.f (Go.bits .xor .i64 t101 t102)).bind fun t107 => (some (t107, 0))) else (if a0 = 9 then (word_Do.j0 k a0 t101 t102 a0 (a0 == 9)) else (word_Do.j0 k a0 t101 t102 a0 (a0 == 10))))))))))) = some (r1, r2) := H
  have A5 := Aside0.mk A50
  clear A50
  have HC6 := Aside0.mk H
  clear H
  go_enter Try.func28, Try.ntmps28
  go_upto_block 5 with (first | ((with_reducible refine gate_callee (f := 14) rfl ?_); refine goesL_ (some 11) rfl rfl Try.func14 (by kernel_rfl) rfl #[.int .u64 a1] rfl (by (try simp only [List.map_toArray, List.map_cons, List.map_nil]); first | done | rfl | (simp only [List.length_drop, List.length_take]; rfl)) ?_; (with_reducible refine (word_Num.calls a1 t101 _ A4.out).mono ?_); rintro e w' ⟨rfl, ⟨nd, rfl⟩⟩; refine ⟨_, rfl, ?_⟩) | ((with_reducible refine gate_callee (f := 14) rfl ?_); refine goesL_ (some 13) rfl rfl Try.func14 (by kernel_rfl) rfl #[.int .u64 a2] rfl (by (try simp only [List.map_toArray, List.map_cons, List.map_nil]); first | done | rfl | (simp only [List.length_drop, List.length_take]; rfl)) ?_; (with_reducible refine (word_Num.calls a2 t102 _ A5.out).mono ?_); rintro e w' ⟨rfl, ⟨nd, rfl⟩⟩; refine ⟨_, rfl, ?_⟩))
  (try simp only [Act.put, List.setIfInBounds_toArray, List.set_cons_zero, List.set_cons_succ])
  go_cut [] (fun wc => ∃ (kq : Nat), Aside0 (word_Do.j1 kq t101 t102 = some (r1, r2)) ∧ Aside0 (kq ≤ k) ∧ Drawn0 w wc)
  case first =>
    have H := HC6.out
    clear HC6
    by_cases c7 : a0 = 1
    · rw [if_pos c7] at H
      have c7b0 : (a0 == 1) = true := beq_iff_eq.mpr c7
      have c7b1 : (a0 != 1) = false := bne_eq_false_iff_eq.mpr c7
      clear c7
      (first | rw [c7b0] | (simp only [i64_w, i32_w]; rw [c7b0]) | skip)
      replace H := Option.bind_eq_some_iff.mp H
      obtain ⟨t103, A80, H⟩ := H
      replace H : (some (t103, 0)) = some (r1, r2) := H
      have A8 := Aside0.mk A80
      clear A80
      simp only [Option.some.injEq, Prod.mk.injEq] at H
      obtain ⟨rfl, rfl⟩ := H
      go_wp2_with (first | ((with_reducible refine gate_callee (f := 12) rfl ?_); refine goesL_ (some 39) rfl rfl Try.func12 (by kernel_rfl) rfl #[.int .i64 (wrap64 (t101 + t102))] rfl (by (try simp only [List.map_toArray, List.map_cons, List.map_nil]); first | done | rfl | (simp only [List.length_drop, List.length_take]; rfl)) ?_; (with_reducible refine (word_Int.calls (wrap64 (t101 + t102)) t103 _ A8.out).mono ?_); rintro e w' ⟨rfl, ⟨nd, rfl⟩⟩; refine ⟨_, rfl, ?_⟩))
      go_ret2
      exact ⟨by first | rfl | (simp; done) | (simp [*]; done), by repeat (first | exact Drawn0.refl _ | apply Drawn0.step)⟩
    · rw [if_neg c7] at H
      have c7b0 : (a0 == 1) = false := beq_eq_false_iff_ne.mpr c7
      have c7b1 : (a0 != 1) = true := bne_iff_ne.mpr c7
      (first | rw [c7b0] | (simp only [i64_w, i32_w]; rw [c7b0]) | skip)
      by_cases c9 : a0 = 2
      · rw [if_pos c9] at H
        have c9b0 : (a0 == 2) = true := beq_iff_eq.mpr c9
        have c9b1 : (a0 != 2) = false := bne_eq_false_iff_eq.mpr c9
        clear c9
        replace H := Option.bind_eq_some_iff.mp H
        obtain ⟨t104, A100, H⟩ := H
        replace H : (some (t104, 0)) = some (r1, r2) := H
        have A10 := Aside0.mk A100
        clear A100
        simp only [Option.some.injEq, Prod.mk.injEq] at H
        obtain ⟨rfl, rfl⟩ := H
        go_wp2_with (first | ((with_reducible refine gate_callee (f := 12) rfl ?_); refine goesL_ (some 43) rfl rfl Try.func12 (by kernel_rfl) rfl #[.int .i64 (wrap64 (t101 - t102))] rfl (by (try simp only [List.map_toArray, List.map_cons, List.map_nil]); first | done | rfl | (simp only [List.length_drop, List.length_take]; rfl)) ?_; (with_reducible refine (word_Int.calls (wrap64 (t101 - t102)) t104 _ A10.out).mono ?_); rintro e w' ⟨rfl, ⟨nd, rfl⟩⟩; refine ⟨_, rfl, ?_⟩))
        go_ret2
        exact ⟨by first | rfl | (simp; done) | (simp [*]; done), by repeat (first | exact Drawn0.refl _ | apply Drawn0.step)⟩
      · rw [if_neg c9] at H
        have c9b0 : (a0 == 2) = false := beq_eq_false_iff_ne.mpr c9
        have c9b1 : (a0 != 2) = true := bne_iff_ne.mpr c9
        by_cases c11 : a0 = 3
        · rw [if_pos c11] at H
          have c11b0 : (a0 == 3) = true := beq_iff_eq.mpr c11
          have c11b1 : (a0 != 3) = false := bne_eq_false_iff_eq.mpr c11
          clear c11
          replace H := Option.bind_eq_some_iff.mp H
          obtain ⟨t110, A120, H⟩ := H
          replace H : (some (t110, 0)) = some (r1, r2) := H
          have A12 := Aside0.mk A120
          clear A120
          simp only [Option.some.injEq, Prod.mk.injEq] at H
          obtain ⟨rfl, rfl⟩ := H
          go_wp2_with (first | ((with_reducible refine gate_callee (f := 12) rfl ?_); refine goesL_ (some 47) rfl rfl Try.func12 (by kernel_rfl) rfl #[.int .i64 (wrap64 (t101 * t102))] rfl (by (try simp only [List.map_toArray, List.map_cons, List.map_nil]); first | done | rfl | (simp only [List.length_drop, List.length_take]; rfl)) ?_; (with_reducible refine (word_Int.calls (wrap64 (t101 * t102)) t110 _ A12.out).mono ?_); rintro e w' ⟨rfl, ⟨nd, rfl⟩⟩; refine ⟨_, rfl, ?_⟩))
          go_ret2
          exact ⟨by first | rfl | (simp; done) | (simp [*]; done), by repeat (first | exact Drawn0.refl _ | apply Drawn0.step)⟩
        · rw [if_neg c11] at H
          have c11b0 : (a0 == 3) = false := beq_eq_false_iff_ne.mpr c11
          have c11b1 : (a0 != 3) = true := bne_iff_ne.mpr c11
          by_cases c13 : a0 = 4
          · rw [if_pos c13] at H
            have c13b0 : (a0 == 4) = true := beq_iff_eq.mpr c13
            have c13b1 : (a0 != 4) = false := bne_eq_false_iff_eq.mpr c13
            clear c13
            by_cases c14 : t102 = 0
            · rw [if_pos c14] at H
              have c14b0 : (t102 == 0) = true := beq_iff_eq.mpr c14
              have c14b1 : (t102 != 0) = false := bne_eq_false_iff_eq.mpr c14
              clear c14
              have H' := Aside0.mk H
              clear H
              go_wp2
              go_meet
              case rel => exact ⟨_, H', ⟨by first | omega | exact Nat.le_refl _⟩, by repeat (first | exact Drawn0.refl _ | apply Drawn0.step)⟩
            · rw [if_neg c14] at H
              have c14b0 : (t102 == 0) = false := beq_eq_false_iff_ne.mpr c14
              have c14b1 : (t102 != 0) = true := bne_iff_ne.mpr c14
              replace H := Option.bind_eq_some_iff.mp H
              obtain ⟨t105, A150, H⟩ := H
              replace H : (some (t105, 0)) = some (r1, r2) := H
              have A15 := Aside0.mk A150
              clear A150
              simp only [Option.some.injEq, Prod.mk.injEq] at H
              obtain ⟨rfl, rfl⟩ := H
              go_wp2_with (first | ((with_reducible refine gate_callee (f := 12) rfl ?_); refine goesL_ (some 53) rfl rfl Try.func12 (by kernel_rfl) rfl #[.int .i64 (wrap64 (Int.tdiv t101 t102))] rfl (by (try simp only [List.map_toArray, List.map_cons, List.map_nil]); first | done | rfl | (simp only [List.length_drop, List.length_take]; rfl)) ?_; (with_reducible refine (word_Int.calls (wrap64 (Int.tdiv t101 t102)) t105 _ A15.out).mono ?_); rintro e w' ⟨rfl, ⟨nd, rfl⟩⟩; refine ⟨_, rfl, ?_⟩))
              go_ret2
              exact ⟨by first | rfl | (simp; done) | (simp [*]; done), by repeat (first | exact Drawn0.refl _ | apply Drawn0.step)⟩
          · rw [if_neg c13] at H
            have c13b0 : (a0 == 4) = false := beq_eq_false_iff_ne.mpr c13
            have c13b1 : (a0 != 4) = true := bne_iff_ne.mpr c13
            by_cases c16 : a0 = 5
            · rw [if_pos c16] at H
              have c16b0 : (a0 == 5) = true := beq_iff_eq.mpr c16
              have c16b1 : (a0 != 5) = false := bne_eq_false_iff_eq.mpr c16
              clear c16
              have H' := Aside0.mk H
              clear H
              go_wp2
              go_meet
              case rel => exact ⟨_, H', ⟨by first | omega | exact Nat.le_refl _⟩, by repeat (first | exact Drawn0.refl _ | apply Drawn0.step)⟩
            · rw [if_neg c16] at H
              have c16b0 : (a0 == 5) = false := beq_eq_false_iff_ne.mpr c16
              have c16b1 : (a0 != 5) = true := bne_iff_ne.mpr c16
              by_cases c17 : a0 = 6
              · rw [if_pos c17] at H
                have c17b0 : (a0 == 6) = true := beq_iff_eq.mpr c17
                have c17b1 : (a0 != 6) = false := bne_eq_false_iff_eq.mpr c17
                clear c17
                replace H := Option.bind_eq_some_iff.mp H
                obtain ⟨t106, A180, H⟩ := H
                replace H : (some (t106, 0)) = some (r1, r2) := H
                have A18 := Aside0.mk A180
                clear A180
                simp only [Option.some.injEq, Prod.mk.injEq] at H
                obtain ⟨rfl, rfl⟩ := H
                go_wp2_with (first | ((with_reducible refine gate_callee (f := 12) rfl ?_); refine goesL_ (some 63) rfl rfl Try.func12 (by kernel_rfl) rfl #[.int .i64 (Go.bits .and .i64 t101 t102)] rfl (by (try simp only [List.map_toArray, List.map_cons, List.map_nil]); first | done | rfl | (simp only [List.length_drop, List.length_take]; rfl)) ?_; (with_reducible refine (word_Int.calls (Go.bits .and .i64 t101 t102) t106 _ A18.out).mono ?_); rintro e w' ⟨rfl, ⟨nd, rfl⟩⟩; refine ⟨_, rfl, ?_⟩))
                go_ret2
                exact ⟨by first | rfl | (simp; done) | (simp [*]; done), by repeat (first | exact Drawn0.refl _ | apply Drawn0.step)⟩
              · rw [if_neg c17] at H
                have c17b0 : (a0 == 6) = false := beq_eq_false_iff_ne.mpr c17
                have c17b1 : (a0 != 6) = true := bne_iff_ne.mpr c17
                by_cases c19 : a0 = 7
                · rw [if_pos c19] at H
                  have c19b0 : (a0 == 7) = true := beq_iff_eq.mpr c19
                  have c19b1 : (a0 != 7) = false := bne_eq_false_iff_eq.mpr c19
                  clear c19
                  replace H := Option.bind_eq_some_iff.mp H
                  obtain ⟨t112, A200, H⟩ := H
                  replace H : (some (t112, 0)) = some (r1, r2) := H
                  have A20 := Aside0.mk A200
                  clear A200
                  simp only [Option.some.injEq, Prod.mk.injEq] at H
                  obtain ⟨rfl, rfl⟩ := H
                  go_wp2_with (first | ((with_reducible refine gate_callee (f := 12) rfl ?_); refine goesL_ (some 67) rfl rfl Try.func12 (by kernel_rfl) rfl #[.int .i64 (Go.bits .or .i64 t101 t102)] rfl (by (try simp only [List.map_toArray, List.map_cons, List.map_nil]); first | done | rfl | (simp only [List.length_drop, List.length_take]; rfl)) ?_; (with_reducible refine (word_Int.calls (Go.bits .or .i64 t101 t102) t112 _ A20.out).mono ?_); rintro e w' ⟨rfl, ⟨nd, rfl⟩⟩; refine ⟨_, rfl, ?_⟩))
                  go_ret2
                  exact ⟨by first | rfl | (simp; done) | (simp [*]; done), by repeat (first | exact Drawn0.refl _ | apply Drawn0.step)⟩
                · rw [if_neg c19] at H
                  have c19b0 : (a0 == 7) = false := beq_eq_false_iff_ne.mpr c19
                  have c19b1 : (a0 != 7) = true := bne_iff_ne.mpr c19
                  by_cases c21 : a0 = 8
                  · rw [if_pos c21] at H
                    have c21b0 : (a0 == 8) = true := beq_iff_eq.mpr c21
                    have c21b1 : (a0 != 8) = false := bne_eq_false_iff_eq.mpr c21
                    clear c21
                    replace H := Option.bind_eq_some_iff.mp H
                    obtain ⟨t107, A220, H⟩ := H
                    replace H : (some (t107, 0)) = some (r1, r2) := H
                    have A22 := Aside0.mk A220
                    clear A220
                    simp only [Option.some.injEq, Prod.mk.injEq] at H
                    obtain ⟨rfl, rfl⟩ := H
                    go_wp2_with (first | ((with_reducible refine gate_callee (f := 12) rfl ?_); refine goesL_ (some 71) rfl rfl Try.func12 (by kernel_rfl) rfl #[.int .i64 (Go.bits .xor .i64 t101 t102)] rfl (by (try simp only [List.map_toArray, List.map_cons, List.map_nil]); first | done | rfl | (simp only [List.length_drop, List.length_take]; rfl)) ?_; (with_reducible refine (word_Int.calls (Go.bits .xor .i64 t101 t102) t107 _ A22.out).mono ?_); rintro e w' ⟨rfl, ⟨nd, rfl⟩⟩; refine ⟨_, rfl, ?_⟩))
                    go_ret2
                    exact ⟨by first | rfl | (simp; done) | (simp [*]; done), by repeat (first | exact Drawn0.refl _ | apply Drawn0.step)⟩
                  · rw [if_neg c21] at H
                    have c21b0 : (a0 == 8) = false := beq_eq_false_iff_ne.mpr c21
                    have c21b1 : (a0 != 8) = true := bne_iff_ne.mpr c21
                    have HC23 := Aside0.mk H
                    clear H
                    go_upto_if 31 with (fail)
                    go_cut [31] (fun v31 wc => ∃ (kq : Nat) (x31_22 : Bool), v31 = .bool x31_22 ∧ Aside0 (word_Do.j0 kq a0 t101 t102 a0 x31_22 = some (r1, r2)) ∧ Aside0 (kq ≤ k) ∧ Drawn0 w wc)
                    case first =>
                      have H := HC23.out
                      clear HC23
                      by_cases c24 : a0 = 9
                      · rw [if_pos c24] at H
                        have c24b0 : (a0 == 9) = true := beq_iff_eq.mpr c24
                        have c24b1 : (a0 != 9) = false := bne_eq_false_iff_eq.mpr c24
                        clear c24
                        (first | rw [c24b0] | (simp only [i64_w, i32_w]; rw [c24b0]) | skip)
                        have H' := Aside0.mk H
                        clear H
                        go_wp2
                        go_meet
                        case rel => exact ⟨_, ((a0 == 9)), (by first | rfl | (simp; done) | (simp [*]; done)), H', ⟨by first | omega | exact Nat.le_refl _⟩, by repeat (first | exact Drawn0.refl _ | apply Drawn0.step)⟩
                      · rw [if_neg c24] at H
                        have c24b0 : (a0 == 9) = false := beq_eq_false_iff_ne.mpr c24
                        have c24b1 : (a0 != 9) = true := bne_iff_ne.mpr c24
                        (first | rw [c24b0] | (simp only [i64_w, i32_w]; rw [c24b0]) | skip)
                        have H' := Aside0.mk H
                        clear H
                        go_wp2
                        go_meet
                        case rel => exact ⟨_, ((a0 == 10)), (by first | rfl | (simp; done) | (simp [*]; done)), H', ⟨by first | omega | exact Nat.le_refl _⟩, by repeat (first | exact Drawn0.refl _ | apply Drawn0.step)⟩
                    case rest =>
                      clear HC23
                      try clear c1
                      try clear c2
                      try clear p2
                      try clear p6
                      try clear c7
                      try clear c7b0
                      try clear c7b1
                      try clear c9
                      try clear c9b0
                      try clear c9b1
                      try clear c11
                      try clear c11b0
                      try clear c11b1
                      try clear c12
                      try clear c13
                      try clear c13b0
                      try clear c13b1
                      try clear c14
                      try clear c14b0
                      try clear c14b1
                      try clear c16
                      try clear c16b0
                      try clear c16b1
                      try clear c17
                      try clear c17b0
                      try clear c17b1
                      try clear c19
                      try clear c19b0
                      try clear c19b1
                      try clear c21
                      try clear c21b0
                      try clear c21b1
                      try clear c24
                      try clear c24b0
                      try clear c24b1
                      obtain ⟨kq, x31_22, rfl, HA, HJ22, ⟨mc22, rfl⟩⟩ := hcut
                      cases kq with
                      | zero => exact absurd HA.out (by simp [word_Do.j0])
                      | succ kj22 =>
                        have H := HA.out
                        clear HA
                        simp only [word_Do.j0] at H
                        by_cases c25 : x31_22 = true
                        · subst c25
                          have H1 : ((word_shifted.f kj22 t101 t102 (a0 == 9)).bind fun t108 => ((word_Int.f t108).bind fun t109 => (some (t109, 0)))) = some (r1, r2) := by rw [if_pos rfl] at H; exact H
                          clear H
                          have H := H1
                          clear H1
                          replace H := Option.bind_eq_some_iff.mp H
                          obtain ⟨t108, A260, H⟩ := H
                          replace H : ((word_Int.f t108).bind fun t109 => (some (t109, 0))) = some (r1, r2) := H
                          have A26 := Aside0.mk A260
                          clear A260
                          replace H := Option.bind_eq_some_iff.mp H
                          obtain ⟨t109, A270, H⟩ := H
                          replace H : (some (t109, 0)) = some (r1, r2) := H
                          have A27 := Aside0.mk A270
                          clear A270
                          simp only [Option.some.injEq, Prod.mk.injEq] at H
                          obtain ⟨rfl, rfl⟩ := H
                          go_wp2_with (first | ((with_reducible refine gate_callee (f := 34) rfl ?_); refine goesL_ (some 76) rfl rfl Try.func34 (by kernel_rfl) rfl #[.int .i64 t101, .int .i64 t102, .bool (a0 == 9)] rfl (by (try simp only [List.map_toArray, List.map_cons, List.map_nil]); first | done | rfl | (simp only [List.length_drop, List.length_take]; rfl)) ?_; (with_reducible refine (word_shifted.calls kj22 t101 t102 (a0 == 9) t108 _ A26.out).mono ?_); rintro e w' ⟨rfl, ⟨nd, rfl⟩⟩; refine ⟨_, rfl, ?_⟩) | ((with_reducible refine gate_callee (f := 12) rfl ?_); refine goesL_ (some 77) rfl rfl Try.func12 (by kernel_rfl) rfl #[.int .i64 t108] rfl (by (try simp only [List.map_toArray, List.map_cons, List.map_nil]); first | done | rfl | (simp only [List.length_drop, List.length_take]; rfl)) ?_; (with_reducible refine (word_Int.calls t108 t109 _ A27.out).mono ?_); rintro e w' ⟨rfl, ⟨nd, rfl⟩⟩; refine ⟨_, rfl, ?_⟩))
                          go_ret2
                          exact ⟨by first | rfl | (simp; done) | (simp [*]; done), by repeat (first | exact Drawn0.refl _ | apply Drawn0.step)⟩
                        · replace c25 := Bool.eq_false_iff.mpr c25
                          subst c25
                          have H1 : (if a0 = 11 then (if t101 < t102 then ((word_Int.f 1).bind fun t113 => (some (t113, 0))) else ((word_Int.f 0).bind fun t114 => (some (t114, 0)))) else (some (0, 1))) = some (r1, r2) := by rw [if_neg (show ¬ (false = true) by decide)] at H; exact H
                          clear H
                          have H := H1
                          clear H1
                          by_cases c28 : a0 = 11
                          · rw [if_pos c28] at H
                            have c28b0 : (a0 == 11) = true := beq_iff_eq.mpr c28
                            have c28b1 : (a0 != 11) = false := bne_eq_false_iff_eq.mpr c28
                            clear c28
                            by_cases c29 : t101 < t102
                            · rw [if_pos c29] at H
                              have c29b0 : decide (t101 < t102) = true := decide_eq_true c29
                              clear c29
                              replace H := Option.bind_eq_some_iff.mp H
                              obtain ⟨t113, A300, H⟩ := H
                              replace H : (some (t113, 0)) = some (r1, r2) := H
                              have A30 := Aside0.mk A300
                              clear A300
                              simp only [Option.some.injEq, Prod.mk.injEq] at H
                              obtain ⟨rfl, rfl⟩ := H
                              go_wp2_with (first | ((with_reducible refine gate_callee (f := 12) rfl ?_); refine goesL_ (some 81) rfl rfl Try.func12 (by kernel_rfl) rfl #[.int .i64 1] rfl (by (try simp only [List.map_toArray, List.map_cons, List.map_nil]); first | done | rfl | (simp only [List.length_drop, List.length_take]; rfl)) ?_; (with_reducible refine (word_Int.calls 1 t113 _ A30.out).mono ?_); rintro e w' ⟨rfl, ⟨nd, rfl⟩⟩; refine ⟨_, rfl, ?_⟩))
                              go_ret2
                              exact ⟨by first | rfl | (simp; done) | (simp [*]; done), by repeat (first | exact Drawn0.refl _ | apply Drawn0.step)⟩
                            · rw [if_neg c29] at H
                              have c29b0 : decide (t101 < t102) = false := decide_eq_false c29
                              clear c29
                              replace H := Option.bind_eq_some_iff.mp H
                              obtain ⟨t114, A310, H⟩ := H
                              replace H : (some (t114, 0)) = some (r1, r2) := H
                              have A31 := Aside0.mk A310
                              clear A310
                              simp only [Option.some.injEq, Prod.mk.injEq] at H
                              obtain ⟨rfl, rfl⟩ := H
                              go_wp2_with (first | ((with_reducible refine gate_callee (f := 12) rfl ?_); refine goesL_ (some 82) rfl rfl Try.func12 (by kernel_rfl) rfl #[.int .i64 0] rfl (by (try simp only [List.map_toArray, List.map_cons, List.map_nil]); first | done | rfl | (simp only [List.length_drop, List.length_take]; rfl)) ?_; (with_reducible refine (word_Int.calls 0 t114 _ A31.out).mono ?_); rintro e w' ⟨rfl, ⟨nd, rfl⟩⟩; refine ⟨_, rfl, ?_⟩))
                              go_ret2
                              exact ⟨by first | rfl | (simp; done) | (simp [*]; done), by repeat (first | exact Drawn0.refl _ | apply Drawn0.step)⟩
                          · rw [if_neg c28] at H
                            have c28b0 : (a0 == 11) = false := beq_eq_false_iff_ne.mpr c28
                            have c28b1 : (a0 != 11) = true := bne_iff_ne.mpr c28
                            simp only [Option.some.injEq, Prod.mk.injEq] at H
                            obtain ⟨rfl, rfl⟩ := H
                            go_wp2
                            go_ret2
                            exact ⟨by first | rfl | (simp; done) | (simp [*]; done), by repeat (first | exact Drawn0.refl _ | apply Drawn0.step)⟩
  case rest =>
    clear HC6
    try clear c1
    try clear c2
    try clear p2
    try clear c3
    try clear p6
    try clear c7
    try clear c7b0
    try clear c7b1
    try clear c9
    try clear c9b0
    try clear c9b1
    try clear c11
    try clear c11b0
    try clear c11b1
    try clear c12
    try clear c13
    try clear c13b0
    try clear c13b1
    try clear c14
    try clear c14b0
    try clear c14b1
    try clear c16
    try clear c16b0
    try clear c16b1
    try clear c17
    try clear c17b0
    try clear c17b1
    try clear c19
    try clear c19b0
    try clear c19b1
    try clear c21
    try clear c21b0
    try clear c21b1
    try clear c22
    try clear c24
    try clear c24b0
    try clear c24b1
    try clear c25
    try clear c28
    try clear c28b0
    try clear c28b1
    try clear c29
    try clear c29b0
    try clear p2
    try clear p6
    obtain ⟨kq, HA, HJ5, ⟨mc5, rfl⟩⟩ := hcut
    cases kq with
    | zero => exact absurd HA.out (by simp [word_Do.j1])
    | succ kj5 =>
      have H := HA.out
      clear HA
      simp only [word_Do.j1] at H
      by_cases c32 : t102 = 0
      · rw [if_pos c32] at H
        have c32b0 : (t102 == 0) = true := beq_iff_eq.mpr c32
        have c32b1 : (t102 != 0) = false := bne_eq_false_iff_eq.mpr c32
        clear c32
        simp only [Option.some.injEq, Prod.mk.injEq] at H
        obtain ⟨rfl, rfl⟩ := H
        go_wp2
        go_ret2
        exact ⟨by first | rfl | (simp; done) | (simp [*]; done), by repeat (first | exact Drawn0.refl _ | apply Drawn0.step)⟩
      · rw [if_neg c32] at H
        have c32b0 : (t102 == 0) = false := beq_eq_false_iff_ne.mpr c32
        have c32b1 : (t102 != 0) = true := bne_iff_ne.mpr c32
        replace H := Option.bind_eq_some_iff.mp H
        obtain ⟨t111, A330, H⟩ := H
        replace H : (some (t111, 0)) = some (r1, r2) := H
        have A33 := Aside0.mk A330
        clear A330
        simp only [Option.some.injEq, Prod.mk.injEq] at H
        obtain ⟨rfl, rfl⟩ := H
        go_wp2_with (first | ((with_reducible refine gate_callee (f := 12) rfl ?_); refine goesL_ (some 59) rfl rfl Try.func12 (by kernel_rfl) rfl #[.int .i64 (Int.tmod t101 t102)] rfl (by (try simp only [List.map_toArray, List.map_cons, List.map_nil]); first | done | rfl | (simp only [List.length_drop, List.length_take]; rfl)) ?_; (with_reducible refine (word_Int.calls (Int.tmod t101 t102) t111 _ A33.out).mono ?_); rintro e w' ⟨rfl, ⟨nd, rfl⟩⟩; refine ⟨_, rfl, ?_⟩))
        go_ret2
        exact ⟨by first | rfl | (simp; done) | (simp [*]; done), by repeat (first | exact Drawn0.refl _ | apply Drawn0.step)⟩

/-! ### grapnelref01_cut: function 32 -/
def grapnelref01_cut.f (a0 : Int) : Option (Int) := if a0 > 4611686018427387903 then (some (wrap64 ((wrap64 ((wrap64 (a0 - 4611686018427387903)) - 4611686018427387903)) - 2))) else (if a0 < (-4611686018427387904) then (some (wrap64 ((wrap64 ((wrap64 (a0 + 4611686018427387903)) + 4611686018427387903)) + 2))) else (some a0))
set_option maxHeartbeats 8000000 in
set_option maxRecDepth 100000 in
theorem grapnelref01_cut.calls (a0 : Int) (r : Int) (w : World) (h : grapnelref01_cut.f a0 = some r) :
    Calls Try.prog 32 #[.int .i64 a0] w fun e w' => e = .returned (.int .i64 r) ∧ Drawn0 w w' := by
  have H : (if a0 > 4611686018427387903 then (some (wrap64 ((wrap64 ((wrap64 (a0 - 4611686018427387903)) - 4611686018427387903)) - 2))) else (if a0 < (-4611686018427387904) then (some (wrap64 ((wrap64 ((wrap64 (a0 + 4611686018427387903)) + 4611686018427387903)) + 2))) else (some a0))) = some r := h
  clear h
  by_cases c2 : a0 > 4611686018427387903
  · rw [if_pos c2] at H
    have c2b0 : decide (4611686018427387903 < a0) = true := decide_eq_true c2
    clear c2
    obtain rfl := Option.some.inj H
    go_enter Try.func32, Try.ntmps32
    go_wp2
    go_ret
    exact ⟨by first | rfl | (simp; done) | (simp [*]; done), by repeat (first | exact Drawn0.refl _ | apply Drawn0.step)⟩
  · rw [if_neg c2] at H
    have c2b0 : decide (4611686018427387903 < a0) = false := decide_eq_false c2
    clear c2
    by_cases c3 : a0 < (-4611686018427387904)
    · rw [if_pos c3] at H
      have c3b0 : decide (a0 < (-4611686018427387904)) = true := decide_eq_true c3
      clear c3
      obtain rfl := Option.some.inj H
      go_enter Try.func32, Try.ntmps32
      go_wp2
      go_ret
      exact ⟨by first | rfl | (simp; done) | (simp [*]; done), by repeat (first | exact Drawn0.refl _ | apply Drawn0.step)⟩
    · rw [if_neg c3] at H
      have c3b0 : decide (a0 < (-4611686018427387904)) = false := decide_eq_false c3
      clear c3
      obtain rfl := Option.some.inj H
      go_enter Try.func32, Try.ntmps32
      go_wp2
      go_ret
      exact ⟨by first | rfl | (simp; done) | (simp [*]; done), by repeat (first | exact Drawn0.refl _ | apply Drawn0.step)⟩

/-! ### grapnelref01_Int: function 13 -/
def grapnelref01_Int.f (a0 : Int) : Option (Int) := (grapnelref01_cut.f a0).bind fun t115 => (if t115 < 0 then (some (IntKind.u64.wrap ((IntKind.u64.wrap (-(IntKind.u64.wrap ((IntKind.u64.wrap (wrap64 (-t115))) * 2)))) + 1))) else (some (IntKind.u64.wrap ((IntKind.u64.wrap ((IntKind.u64.wrap (t115)) * 2)) + 1))))
set_option maxHeartbeats 8000000 in
set_option maxRecDepth 100000 in
theorem grapnelref01_Int.calls (a0 : Int) (r : Int) (w : World) (h : grapnelref01_Int.f a0 = some r) :
    Calls Try.prog 13 #[.int .i64 a0] w fun e w' => e = .returned (.int .u64 r) ∧ Drawn0 w w' := by
  have H : ((grapnelref01_cut.f a0).bind fun t115 => (if t115 < 0 then (some (IntKind.u64.wrap ((IntKind.u64.wrap (-(IntKind.u64.wrap ((IntKind.u64.wrap (wrap64 (-t115))) * 2)))) + 1))) else (some (IntKind.u64.wrap ((IntKind.u64.wrap ((IntKind.u64.wrap (t115)) * 2)) + 1))))) = some r := h
  clear h
  replace H := Option.bind_eq_some_iff.mp H
  obtain ⟨t115, A20, H⟩ := H
  replace H : (if t115 < 0 then (some (IntKind.u64.wrap ((IntKind.u64.wrap (-(IntKind.u64.wrap ((IntKind.u64.wrap (wrap64 (-t115))) * 2)))) + 1))) else (some (IntKind.u64.wrap ((IntKind.u64.wrap ((IntKind.u64.wrap (t115)) * 2)) + 1)))) = some r := H
  have A2 := Aside0.mk A20
  clear A20
  by_cases c3 : t115 < 0
  · rw [if_pos c3] at H
    have c3b0 : decide (t115 < 0) = true := decide_eq_true c3
    clear c3
    obtain rfl := Option.some.inj H
    go_enter Try.func13, Try.ntmps13
    go_wp2_with (first | ((with_reducible refine gate_callee (f := 32) rfl ?_); refine goesL_ (some 4) rfl rfl Try.func32 (by kernel_rfl) rfl #[.int .i64 a0] rfl (by (try simp only [List.map_toArray, List.map_cons, List.map_nil]); first | done | rfl | (simp only [List.length_drop, List.length_take]; rfl)) ?_; (with_reducible refine (grapnelref01_cut.calls a0 t115 _ A2.out).mono ?_); rintro e w' ⟨rfl, ⟨nd, rfl⟩⟩; refine ⟨_, rfl, ?_⟩))
    go_ret
    exact ⟨by first | rfl | (simp; done) | (simp [*]; done), by repeat (first | exact Drawn0.refl _ | apply Drawn0.step)⟩
  · rw [if_neg c3] at H
    have c3b0 : decide (t115 < 0) = false := decide_eq_false c3
    clear c3
    obtain rfl := Option.some.inj H
    go_enter Try.func13, Try.ntmps13
    go_wp2_with (first | ((with_reducible refine gate_callee (f := 32) rfl ?_); refine goesL_ (some 4) rfl rfl Try.func32 (by kernel_rfl) rfl #[.int .i64 a0] rfl (by (try simp only [List.map_toArray, List.map_cons, List.map_nil]); first | done | rfl | (simp only [List.length_drop, List.length_take]; rfl)) ?_; (with_reducible refine (grapnelref01_cut.calls a0 t115 _ A2.out).mono ?_); rintro e w' ⟨rfl, ⟨nd, rfl⟩⟩; refine ⟨_, rfl, ?_⟩))
    go_ret
    exact ⟨by first | rfl | (simp; done) | (simp [*]; done), by repeat (first | exact Drawn0.refl _ | apply Drawn0.step)⟩

/-! ### grapnelref01_Num: function 15 -/
def grapnelref01_Num.f (a0 : Int) : Option (Int) := if (wrap64 (IntKind.u64.wrap (Int.tdiv a0 2))) > 4611686018427387903 then (some (wrap64 ((wrap64 ((wrap64 ((wrap64 (IntKind.u64.wrap (Int.tdiv a0 2))) - 4611686018427387903)) - 4611686018427387903)) - 2))) else (some (wrap64 (IntKind.u64.wrap (Int.tdiv a0 2))))
set_option maxHeartbeats 8000000 in
set_option maxRecDepth 100000 in
theorem grapnelref01_Num.calls (a0 : Int) (r : Int) (w : World) (h : grapnelref01_Num.f a0 = some r) :
    Calls Try.prog 15 #[.int .u64 a0] w fun e w' => e = .returned (.int .i64 r) ∧ Drawn0 w w' := by
  have H : (if (wrap64 (IntKind.u64.wrap (Int.tdiv a0 2))) > 4611686018427387903 then (some (wrap64 ((wrap64 ((wrap64 ((wrap64 (IntKind.u64.wrap (Int.tdiv a0 2))) - 4611686018427387903)) - 4611686018427387903)) - 2))) else (some (wrap64 (IntKind.u64.wrap (Int.tdiv a0 2))))) = some r := h
  clear h
  by_cases c2 : (wrap64 (IntKind.u64.wrap (Int.tdiv a0 2))) > 4611686018427387903
  · rw [if_pos c2] at H
    have c2b0 : decide (4611686018427387903 < (wrap64 (IntKind.u64.wrap (Int.tdiv a0 2)))) = true := decide_eq_true c2
    clear c2
    obtain rfl := Option.some.inj H
    go_enter Try.func15, Try.ntmps15
    go_wp2
    go_ret
    exact ⟨by first | rfl | (simp; done) | (simp [*]; done), by repeat (first | exact Drawn0.refl _ | apply Drawn0.step)⟩
  · rw [if_neg c2] at H
    have c2b0 : decide (4611686018427387903 < (wrap64 (IntKind.u64.wrap (Int.tdiv a0 2)))) = false := decide_eq_false c2
    clear c2
    obtain rfl := Option.some.inj H
    go_enter Try.func15, Try.ntmps15
    go_wp2
    go_ret
    exact ⟨by first | rfl | (simp; done) | (simp [*]; done), by repeat (first | exact Drawn0.refl _ | apply Drawn0.step)⟩

/-! ### grapnelref01_bit: function 39 -/
def grapnelref01_bit.f (a0 : Int) (a1 : Int) : Option (Bool) := (grapnelref01_Int.f a0).bind fun t116 => (if 0 ≤ (wrap64 (a1 + 1)) then (some ((Int.tmod (shr .u64 t116 (wrap64 (a1 + 1))) 2) == 1)) else (none))
set_option maxHeartbeats 8000000 in
set_option maxRecDepth 100000 in
theorem grapnelref01_bit.calls (a0 : Int) (a1 : Int) (r : Bool) (w : World) (h : grapnelref01_bit.f a0 a1 = some r) :
    Calls Try.prog 39 #[.int .i64 a0, .int .i64 a1] w fun e w' => e = .returned (.bool r) ∧ Drawn0 w w' := by
  have H : ((grapnelref01_Int.f a0).bind fun t116 => (if 0 ≤ (wrap64 (a1 + 1)) then (some ((Int.tmod (shr .u64 t116 (wrap64 (a1 + 1))) 2) == 1)) else (none))) = some r := h
  clear h
  replace H := Option.bind_eq_some_iff.mp H
  obtain ⟨t116, A30, H⟩ := H
  replace H : (if 0 ≤ (wrap64 (a1 + 1)) then (some ((Int.tmod (shr .u64 t116 (wrap64 (a1 + 1))) 2) == 1)) else (none)) = some r := H
  have A3 := Aside0.mk A30
  clear A30
  obtain ⟨ji4, hji4⟩ : ∃ j_ : Int, (wrap64 (a1 + 1)) = j_ := ⟨_, rfl⟩
  replace H : (if 0 ≤ (ji4) then (some ((Int.tmod (shr .u64 t116 (ji4)) 2) == 1)) else (none)) = some r := by first | (rw [hji4] at H; exact H) | (simp only [hji4] at H ⊢; exact H)
  (try rw [hji4] at A3)
  have hji4w : (IntKind.i64.wrap (a1 + 1)) = ji4 := (i64_w _).trans hji4
  by_cases c5 : 0 ≤ (ji4)
  · rw [if_pos c5] at H
    have c5b0 := eq_true c5
    have c5b1 : decide (0 ≤ (ji4)) = true := decide_eq_true c5
    clear c5
    obtain ⟨ji6, hji6⟩ : ∃ j_ : Int, (shr .u64 t116 (ji4)) = j_ := ⟨_, rfl⟩
    replace H : (some ((Int.tmod (ji6) 2) == 1)) = some r := by first | (rw [hji6] at H; exact H) | (simp only [hji6] at H ⊢; exact H)
    (try rw [hji6] at A3)
    have hji6_ : (t116 / 2 ^ min (ji4).toNat 64) = ji6 := hji6
    have hji6z : (ji4) ≤ 64 → (t116 / 2 ^ (ji4).toNat) = ji6 := shr_small hji6
    obtain rfl := Option.some.inj H
    go_enter Try.func39, Try.ntmps39
    go_wp2_with (first | ((with_reducible refine gate_callee (f := 13) rfl ?_); refine goesL_ (some 6) rfl rfl Try.func13 (by kernel_rfl) rfl #[.int .i64 a0] rfl (by (try simp only [List.map_toArray, List.map_cons, List.map_nil]); first | done | rfl | (simp only [List.length_drop, List.length_take]; rfl)) ?_; (with_reducible refine (grapnelref01_Int.calls a0 t116 _ A3.out).mono ?_); rintro e w' ⟨rfl, ⟨nd, rfl⟩⟩; refine ⟨_, rfl, ?_⟩))
    go_ret
    exact ⟨by first | rfl | (simp; done) | (simp only [← hji4, ← hji6] <;> (first | rfl | simp)) | (simp [*]; done), by repeat (first | exact Drawn0.refl _ | apply Drawn0.step)⟩
  · rw [if_neg c5] at H
    exact absurd H (by simp)

end Go.Proofs.Ytblianhdcnpgjaa.PWordDoes
