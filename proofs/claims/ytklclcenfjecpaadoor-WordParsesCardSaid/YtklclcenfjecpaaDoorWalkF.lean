/- The walk of the reference's Parse: at every text that Go can hold it tells parseN's answer. -/
import Derived.Test.YtklclcenfjecpaaDoorWalkE
namespace Go.Proofs.YtklclcenfjecpaaDoor.DoorWalk
open Go.RowKit Go.Proofs.YtklclcenfjecpaaDoorW.PrintWords Go.Proofs.YtklclcenfjecpaaDoorW.PrintLast Go.Proofs.YtklclcenfjecpaaDoorW.PrintMore
open Go.Proofs.YtklclcenfjecpaaDoor.Num
/-- What a reader of numbers leaves, the answer under a name. -/
def Leaves (R : Int × Int) (w : World) (e : Ending) (w' : World) : Prop := e = .returned (.tuple #[.int .u64 R.1, .int .i64 R.2]) ∧ Drawn0 w w'
theorem leaves_mk {R : Int × Int} {a b : Int} {w w' : World} (h : R = (a, b)) (hd : Drawn0 w w') : Leaves R w (.returned (.tuple #[.int .u64 a, .int .i64 b])) w' := by subst h; exact ⟨rfl, hd⟩
/-- Up to byte k only digits stood. -/
def Dig1 (s : ByteArray) (i k : Nat) : Prop := (s.data.toList.drop k).all dig = (s.data.toList.drop i).all dig
/-- What the digits up to byte k spell is v. -/
def Acc1 (s : ByteArray) (i k v : Nat) : Prop := val v (s.data.toList.drop k) = val 0 (s.data.toList.drop i) ∧ (s.data.toList.drop k).all dig = true
theorem drop_at (s : ByteArray) (k : Nat) (h : k < s.size) : s.data.toList.drop k = s[k] :: s.data.toList.drop (k + 1) := by
  have h2 : k < s.data.toList.length := by rw [Array.length_toList]; exact h
  rw [List.drop_eq_getElem_cons h2]; rfl
theorem drop_end (s : ByteArray) (k : Nat) (h : ¬ k < s.size) : s.data.toList.drop k = [] := by
  have h2 : s.data.toList.length = s.size := Array.length_toList
  exact List.drop_eq_nil_of_le (by omega)
theorem dig_yes {c : UInt8} (h1 : 48 ≤ (c.toNat : Int)) (h2 : (c.toNat : Int) ≤ 57) : dig c = true := decide_eq_true ⟨by omega, by omega⟩
theorem dig_bd {c : UInt8} (h : dig c = true) : 48 ≤ (c.toNat : Int) ∧ (c.toNat : Int) ≤ 57 := by
  have := of_decide_eq_true h; omega
theorem dig_step {s : ByteArray} {i k : Nat} (h : k < s.size) (hd : Dig1 s i k) (h1 : 48 ≤ (s[k].toNat : Int)) (h2 : (s[k].toNat : Int) ≤ 57) : Dig1 s i (k + 1) := by
  unfold Dig1 at *
  rw [drop_at s k h, List.all_cons, dig_yes h1 h2, Bool.true_and] at hd
  exact hd
theorem dig_low {s : ByteArray} {i k : Nat} (h : k < s.size) (hd : Dig1 s i k) (h1 : (s[k].toNat : Int) < 48) : (s.data.toList.drop i).all dig = false := by
  unfold Dig1 at hd
  have : dig s[k] = false := decide_eq_false (by omega)
  rw [drop_at s k h, List.all_cons, this, Bool.false_and] at hd
  exact hd.symm
theorem dig_high {s : ByteArray} {i k : Nat} (h : k < s.size) (hd : Dig1 s i k) (h1 : 48 ≤ (s[k].toNat : Int)) (h2 : (s[k].toNat : Int) < 48 ∨ 57 < (s[k].toNat : Int)) : (s.data.toList.drop i).all dig = false := by
  unfold Dig1 at hd
  have : dig s[k] = false := decide_eq_false (by omega)
  rw [drop_at s k h, List.all_cons, this, Bool.false_and] at hd
  exact hd.symm
theorem dig_end {s : ByteArray} {i k : Nat} (h : ¬ k < s.size) (hd : Dig1 s i k) : (s.data.toList.drop i).all dig = true := by
  unfold Dig1 at hd
  rw [drop_end s k h] at hd
  exact hd.symm
theorem acc_start {s : ByteArray} {i : Nat} (h : (s.data.toList.drop i).all dig = true) : Acc1 s i i 0 := ⟨rfl, h⟩
theorem acc_dig {s : ByteArray} {i k v : Nat} (h : k < s.size) (hd : Acc1 s i k v) : 48 ≤ (s[k].toNat : Int) ∧ (s[k].toNat : Int) ≤ 57 := by
  have := hd.2
  rw [drop_at s k h, List.all_cons, Bool.and_eq_true] at this
  exact dig_bd this.1
theorem thr {c v : Int} (h1 : 48 ≤ c) (h2 : c ≤ 57) : -v < Int.tdiv (-4611686018427387904 + (c - 48)) 10 ↔ 4611686018427387904 < v * 10 + (c - 48) := by
  have e : Int.tdiv (-4611686018427387904 + (c - 48)) 10 = -((4611686018427387904 - (c - 48)) / 10) := by
    rw [show -4611686018427387904 + (c - 48) = -(4611686018427387904 - (c - 48)) by omega, Int.neg_tdiv, Int.tdiv_eq_ediv_of_nonneg (by omega)]
  rw [e]; omega
theorem acc_step {s : ByteArray} {i k v : Nat} (h : k < s.size) (hd : Acc1 s i k v) : Acc1 s i (k + 1) (v * 10 + (s[k].toNat - 48)) := by
  obtain ⟨h1, h2⟩ := hd
  rw [drop_at s k h, val_cons] at h1
  rw [drop_at s k h, List.all_cons, Bool.and_eq_true] at h2
  exact ⟨h1, h2.2⟩
theorem acc_next {s : ByteArray} {i k v : Nat} (h : k < s.size) (hv : (v : Int) ≤ 4611686018427387904) (hd : Acc1 s i k v) (ht : Int.tdiv (-4611686018427387904 + ((s[k].toNat : Int) - 48)) 10 ≤ -(v : Int)) :
    ∃ v' : Nat, (v' : Int) ≤ 4611686018427387904 ∧ wrap64 (wrap64 (-(v : Int) * 10) - ((s[k].toNat : Int) - 48)) = -(v' : Int) ∧ Acc1 s i (k + 1) v' := by
  obtain ⟨b1, b2⟩ := acc_dig h hd
  have ht2 := mt (thr (v := v) b1 b2).mpr (by omega)
  refine ⟨v * 10 + (s[k].toNat - 48), by omega, ?_, acc_step h hd⟩
  unfold wrap64; omega
theorem acc_over {s : ByteArray} {i k v : Nat} (h : k < s.size) (hd : Acc1 s i k v) (ht : -(v : Int) < Int.tdiv (-4611686018427387904 + ((s[k].toNat : Int) - 48)) 10) : 4611686018427387904 < val 0 (s.data.toList.drop i) := by
  obtain ⟨b1, b2⟩ := acc_dig h hd
  have ht2 := (thr (v := v) b1 b2).mp ht
  have h1 := (acc_step h hd).1
  have h2 := val_ge (s.data.toList.drop (k + 1)) (v * 10 + (s[k].toNat - 48))
  rw [h1] at h2
  refine Nat.lt_of_lt_of_le ?_ h2
  omega
theorem acc_end {s : ByteArray} {i k v : Nat} (h : ¬ k < s.size) (hd : Acc1 s i k v) : val 0 (s.data.toList.drop i) = v := by
  have := hd.1
  rw [drop_end s k h, val_nil] at this
  exact this.symm
set_option maxHeartbeats 8000000 in
set_option maxRecDepth 100000 in
theorem ref_empty (s : ByteArray) (w : World) (hs : s.size ≤ 140737488351232) (hz : ((s.size : Int) == 0) = true) :
    Calls Tryd.prog 9 #[.string s] w (Leaves (0, 5) w) := by
  go_enter Tryd.func9, Tryd.ntmps9
  go_wp2
  all_goals (go_ret2; exact leaves_mk rfl (Drawn0.refl _))
set_option maxHeartbeats 8000000 in
set_option maxRecDepth 100000 in
theorem ref_zero (s : ByteArray) (w : World) (h0 : 0 < s.size)
    (hm : ((s[0].toNat : Int) == 45) = false) (hz : ((s.size : Int) == 0) = false) (h48 : ((s[0].toNat : Int) == 48) = true) (h1 : decide (1 < (s.size : Int)) = true) :
    Calls Tryd.prog 9 #[.string s] w (Leaves (0, 5) w) := by
  go_enter Tryd.func9, Tryd.ntmps9
  go_wp2
  all_goals (go_ret2; exact leaves_mk rfl (Drawn0.refl _))
set_option maxHeartbeats 8000000 in
set_option maxRecDepth 100000 in
theorem ref_sign (s : ByteArray) (w : World) (h0 : 0 < s.size)
    (hm : ((s[0].toNat : Int) == 45) = true) (hz : ((s.size : Int) == 1) = true) :
    Calls Tryd.prog 9 #[.string s] w (Leaves (0, 5) w) := by
  go_enter Tryd.func9, Tryd.ntmps9
  go_wp2
  all_goals (go_ret2; exact leaves_mk rfl (Drawn0.refl _))
set_option maxHeartbeats 8000000 in
set_option maxRecDepth 100000 in
theorem ref_signzero (s : ByteArray) (w : World) (hs : s.size ≤ 140737488351232) (h0 : 1 < s.size)
    (hm : ((s[0].toNat : Int) == 45) = true) (hz : ((s.size : Int) == 1) = false) (h48 : ((s[1].toNat : Int) == 48) = true) :
    Calls Tryd.prog 9 #[.string s] w (Leaves (0, 5) w) := by
  go_enter Tryd.func9, Tryd.ntmps9
  go_wp2
  all_goals (go_ret2; exact leaves_mk rfl (Drawn0.refl _))
set_option maxHeartbeats 8000000 in
set_option maxRecDepth 100000 in
theorem ref_plain (s : ByteArray) (R : Int × Int) (w : World) (hs : s.size ≤ 140737488351232) (h0 : 0 < s.size)
    (hm : ((s[0].toNat : Int) == 45) = false) (hz : ((s.size : Int) == 0) = false) (h48 : ((s[0].toNat : Int) == 48) = false)
    (hbad : Aside0 ((s.data.toList.drop 0).all dig = false → R = (0, 5)))
    (hrange : Aside0 ((s.data.toList.drop 0).all dig = true → 4611686018427387904 < val 0 (s.data.toList.drop 0) ∨ val 0 (s.data.toList.drop 0) = 4611686018427387904 → R = (0, 2)))
    (hfin : Aside0 ((s.data.toList.drop 0).all dig = true → ∀ v : Nat, v < 4611686018427387904 → val 0 (s.data.toList.drop 0) = v → R = (enc (v : Int), 0))) :
    Calls Tryd.prog 9 #[.string s] w (Leaves R w) := by
  go_enter Tryd.func9, Tryd.ntmps9
  go_wp2
  go_loop [6] (fun i => ∃ k : Nat, 0 ≤ k ∧ k ≤ s.size ∧ i = .int .i64 k ∧ Dig1 s 0 k) (fun i => s.size - (intOf i).toNat)
  case atStart => exact ⟨0, Nat.le_refl _, by omega, rfl, rfl⟩
  case round =>
    obtain ⟨k, hk0, hk, rfl, hd⟩ := hrel
    by_cases hlt : k < s.size
    · go_wp2
      · go_ret2
        exact leaves_mk (hbad.out (dig_high hlt hd ‹_› ‹_›)) (Drawn0.refl _)
      · go_round
        case rel => exact ⟨k + 1, by omega, by omega, by go_num, dig_step hlt hd ‹_› (by omega)⟩
        case measure => simp [intOf]; omega
      · go_ret2
        exact leaves_mk (hbad.out (dig_low hlt hd ‹_›)) (Drawn0.refl _)
    · have hall := dig_end hlt hd
      clear hd
      go_wp2
      go_loop [7, 8] (fun n i => ∃ k v : Nat, 0 ≤ k ∧ k ≤ s.size ∧ (v : Int) ≤ 4611686018427387904 ∧ n = .int .i64 (-(v : Int)) ∧ i = .int .i64 k ∧ Acc1 s 0 k v) (fun _ i => s.size - (intOf i).toNat)
      case atStart => exact ⟨0, 0, Nat.le_refl _, by omega, by omega, rfl, rfl, acc_start hall⟩
      case round =>
        obtain ⟨k, v, hk0, hk, hv, rfl, rfl, hd⟩ := hrel
        by_cases hlt : k < s.size
        · obtain ⟨hc1, hc2⟩ := acc_dig hlt hd
          go_wp2
          · have hR := hrange.out hall (.inl (acc_over hlt hd ‹_›))
            go_ret2
            exact leaves_mk hR (Drawn0.refl _)
          · obtain ⟨v', hv1, hv2, hv3⟩ := acc_next hlt hv hd ‹_›
            go_round
            case rel => exact ⟨k + 1, v', by omega, by omega, hv1, by rw [hv2], by go_num, hv3⟩
            case measure => simp [intOf]; omega
        · have hend := acc_end hlt hd
          by_cases hv62 : v = 4611686018427387904
          · have t : (-(v : Int) == -4611686018427387904) = true := beq_iff_eq.mpr (by omega)
            have hR := Aside0.mk (hrange.out hall (.inr (hend.trans hv62)))
            go_wp2_with (go_at_call 24; (with_reducible refine (refint_c _ (by omega) (by omega) _).mono ?_); rintro e w' ⟨rfl, ⟨nd, rfl⟩⟩)
            go_ret2
            exact leaves_mk hR.out (by repeat (first | exact Drawn0.refl _ | apply Drawn0.step))
          · have t : (-(v : Int) == -4611686018427387904) = false := beq_eq_false_iff_ne.mpr (by omega)
            go_wp2_with (go_at_call 24; (with_reducible refine (refint_c _ (by omega) (by omega) _).mono ?_); rintro e w' ⟨rfl, ⟨nd, rfl⟩⟩)
            go_ret2
            exact leaves_mk (hfin.out hall v (by omega) hend) (by repeat (first | exact Drawn0.refl _ | apply Drawn0.step))
set_option maxHeartbeats 8000000 in
set_option maxRecDepth 100000 in
theorem ref_nought (s : ByteArray) (R : Int × Int) (w : World) (hs : s.size ≤ 140737488351232) (h0 : 0 < s.size)
    (hm : ((s[0].toNat : Int) == 45) = false) (hz : ((s.size : Int) == 0) = false) (h48 : ((s[0].toNat : Int) == 48) = true) (h1 : decide (1 < (s.size : Int)) = false)
    (hbad : Aside0 ((s.data.toList.drop 0).all dig = false → R = (0, 5)))
    (hrange : Aside0 ((s.data.toList.drop 0).all dig = true → 4611686018427387904 < val 0 (s.data.toList.drop 0) ∨ val 0 (s.data.toList.drop 0) = 4611686018427387904 → R = (0, 2)))
    (hfin : Aside0 ((s.data.toList.drop 0).all dig = true → ∀ v : Nat, v < 4611686018427387904 → val 0 (s.data.toList.drop 0) = v → R = (enc (v : Int), 0))) :
    Calls Tryd.prog 9 #[.string s] w (Leaves R w) := by
  go_enter Tryd.func9, Tryd.ntmps9
  go_wp2
  go_loop [6] (fun i => ∃ k : Nat, 0 ≤ k ∧ k ≤ s.size ∧ i = .int .i64 k ∧ Dig1 s 0 k) (fun i => s.size - (intOf i).toNat)
  case atStart => exact ⟨0, Nat.le_refl _, by omega, rfl, rfl⟩
  case round =>
    obtain ⟨k, hk0, hk, rfl, hd⟩ := hrel
    by_cases hlt : k < s.size
    · go_wp2
      · go_ret2
        exact leaves_mk (hbad.out (dig_high hlt hd ‹_› ‹_›)) (Drawn0.refl _)
      · go_round
        case rel => exact ⟨k + 1, by omega, by omega, by go_num, dig_step hlt hd ‹_› (by omega)⟩
        case measure => simp [intOf]; omega
      · go_ret2
        exact leaves_mk (hbad.out (dig_low hlt hd ‹_›)) (Drawn0.refl _)
    · have hall := dig_end hlt hd
      clear hd
      go_wp2
      go_loop [7, 8] (fun n i => ∃ k v : Nat, 0 ≤ k ∧ k ≤ s.size ∧ (v : Int) ≤ 4611686018427387904 ∧ n = .int .i64 (-(v : Int)) ∧ i = .int .i64 k ∧ Acc1 s 0 k v) (fun _ i => s.size - (intOf i).toNat)
      case atStart => exact ⟨0, 0, Nat.le_refl _, by omega, by omega, rfl, rfl, acc_start hall⟩
      case round =>
        obtain ⟨k, v, hk0, hk, hv, rfl, rfl, hd⟩ := hrel
        by_cases hlt : k < s.size
        · obtain ⟨hc1, hc2⟩ := acc_dig hlt hd
          go_wp2
          · have hR := hrange.out hall (.inl (acc_over hlt hd ‹_›))
            go_ret2
            exact leaves_mk hR (Drawn0.refl _)
          · obtain ⟨v', hv1, hv2, hv3⟩ := acc_next hlt hv hd ‹_›
            go_round
            case rel => exact ⟨k + 1, v', by omega, by omega, hv1, by rw [hv2], by go_num, hv3⟩
            case measure => simp [intOf]; omega
        · have hend := acc_end hlt hd
          by_cases hv62 : v = 4611686018427387904
          · have t : (-(v : Int) == -4611686018427387904) = true := beq_iff_eq.mpr (by omega)
            have hR := Aside0.mk (hrange.out hall (.inr (hend.trans hv62)))
            go_wp2_with (go_at_call 24; (with_reducible refine (refint_c _ (by omega) (by omega) _).mono ?_); rintro e w' ⟨rfl, ⟨nd, rfl⟩⟩)
            go_ret2
            exact leaves_mk hR.out (by repeat (first | exact Drawn0.refl _ | apply Drawn0.step))
          · have t : (-(v : Int) == -4611686018427387904) = false := beq_eq_false_iff_ne.mpr (by omega)
            go_wp2_with (go_at_call 24; (with_reducible refine (refint_c _ (by omega) (by omega) _).mono ?_); rintro e w' ⟨rfl, ⟨nd, rfl⟩⟩)
            go_ret2
            exact leaves_mk (hfin.out hall v (by omega) hend) (by repeat (first | exact Drawn0.refl _ | apply Drawn0.step))
set_option maxHeartbeats 8000000 in
set_option maxRecDepth 100000 in
theorem ref_minus (s : ByteArray) (R : Int × Int) (w : World) (hs : s.size ≤ 140737488351232) (h0 : 1 < s.size)
    (hm : ((s[0].toNat : Int) == 45) = true) (hz : ((s.size : Int) == 1) = false) (h48 : ((s[1].toNat : Int) == 48) = false)
    (hbad : Aside0 ((s.data.toList.drop 1).all dig = false → R = (0, 5)))
    (hrange : Aside0 ((s.data.toList.drop 1).all dig = true → 4611686018427387904 < val 0 (s.data.toList.drop 1) → R = (0, 2)))
    (hfin : Aside0 ((s.data.toList.drop 1).all dig = true → ∀ v : Nat, (v : Int) ≤ 4611686018427387904 → val 0 (s.data.toList.drop 1) = v → R = (enc (-(v : Int)), 0))) :
    Calls Tryd.prog 9 #[.string s] w (Leaves R w) := by
  go_enter Tryd.func9, Tryd.ntmps9
  go_wp2
  go_loop [6] (fun i => ∃ k : Nat, 1 ≤ k ∧ k ≤ s.size ∧ i = .int .i64 k ∧ Dig1 s 1 k) (fun i => s.size - (intOf i).toNat)
  case atStart => exact ⟨1, Nat.le_refl _, by omega, rfl, rfl⟩
  case round =>
    obtain ⟨k, hk0, hk, rfl, hd⟩ := hrel
    by_cases hlt : k < s.size
    · go_wp2
      · go_ret2
        exact leaves_mk (hbad.out (dig_high hlt hd ‹_› ‹_›)) (Drawn0.refl _)
      · go_round
        case rel => exact ⟨k + 1, by omega, by omega, by go_num, dig_step hlt hd ‹_› (by omega)⟩
        case measure => simp [intOf]; omega
      · go_ret2
        exact leaves_mk (hbad.out (dig_low hlt hd ‹_›)) (Drawn0.refl _)
    · have hall := dig_end hlt hd
      clear hd
      go_wp2
      go_loop [7, 8] (fun n i => ∃ k v : Nat, 1 ≤ k ∧ k ≤ s.size ∧ (v : Int) ≤ 4611686018427387904 ∧ n = .int .i64 (-(v : Int)) ∧ i = .int .i64 k ∧ Acc1 s 1 k v) (fun _ i => s.size - (intOf i).toNat)
      case atStart => exact ⟨1, 0, Nat.le_refl _, by omega, by omega, rfl, rfl, acc_start hall⟩
      case round =>
        obtain ⟨k, v, hk0, hk, hv, rfl, rfl, hd⟩ := hrel
        by_cases hlt : k < s.size
        · obtain ⟨hc1, hc2⟩ := acc_dig hlt hd
          go_wp2
          · have hR := hrange.out hall (acc_over hlt hd ‹_›)
            go_ret2
            exact leaves_mk hR (Drawn0.refl _)
          · obtain ⟨v', hv1, hv2, hv3⟩ := acc_next hlt hv hd ‹_›
            go_round
            case rel => exact ⟨k + 1, v', by omega, by omega, hv1, by rw [hv2], by go_num, hv3⟩
            case measure => simp [intOf]; omega
        · have hend := acc_end hlt hd
          go_wp2_with (go_at_call 24; (with_reducible refine (refint_c _ (by omega) (by omega) _).mono ?_); rintro e w' ⟨rfl, ⟨nd, rfl⟩⟩)
          go_ret2
          exact leaves_mk (hfin.out hall v hv hend) (by repeat (first | exact Drawn0.refl _ | apply Drawn0.step))

theorem ref_all (s : ByteArray) (i : Nat) (M : Bool) (hd : s.data.toList.drop i ≠ []) (hh : ¬ ((s.data.toList.drop i).head? = some 48 ∧ (1 < (s.data.toList.drop i).length ∨ M = true))) :
    bad M (s.data.toList.drop i) = !((s.data.toList.drop i).all dig) := by
  unfold bad
  have e1 : (s.data.toList.drop i).isEmpty = false := by simpa using hd
  have e2 : ((s.data.toList.drop i).head? == some 48 && (decide (1 < (s.data.toList.drop i).length) || M)) = false := by
    rw [Bool.eq_false_iff]
    intro h
    apply hh
    simpa using h
  rw [e1, e2]; simp
def ans (M : Bool) (d : List UInt8) : Int × Int := if bad M d then (0, 5) else told M d
theorem ans_bad {M : Bool} {d : List UInt8} (hb : bad M d = !(d.all dig)) (h : d.all dig = false) : ans M d = (0, 5) := by
  unfold ans; rw [hb, h]; rfl
theorem ans_told {M : Bool} {d : List UInt8} (hb : bad M d = !(d.all dig)) (h : d.all dig = true) : ans M d = told M d := by
  unfold ans; rw [hb, h]; rfl
theorem told_over {M : Bool} {d : List UInt8} (h : 4611686018427387904 < val 0 d) : told M d = (0, 2) := by
  unfold told; rw [if_pos (.inl h)]
theorem told_edge {d : List UInt8} (h : val 0 d = 4611686018427387904) : told false d = (0, 2) := by
  unfold told; rw [if_pos (.inr ⟨h, rfl⟩)]
theorem told_pos {d : List UInt8} {v : Nat} (h : v < 4611686018427387904) (hv : val 0 d = v) : told false d = (enc (v : Int), 0) := by
  unfold told; rw [hv, if_neg (by omega), if_neg (by decide)]
theorem told_neg {d : List UInt8} {v : Nat} (h : (v : Int) ≤ 4611686018427387904) (hv : val 0 d = v) : told true d = (enc (-(v : Int)), 0) := by
  unfold told; rw [hv, if_neg (by rintro (h | h); omega; exact absurd h.2 (by decide)), if_pos rfl]
theorem ref_parse (s : ByteArray) (w : World) (hs : s.size ≤ 140737488351232) : Calls Tryd.prog 9 #[.string s] w (Leaves (parseN s.data.toList) w) := by
  have hlen : s.data.toList.length = s.size := Array.length_toList
  by_cases h0 : 0 < s.size
  · have hz : ((s.size : Int) == 0) = false := beq_eq_false_iff_ne.mpr (by omega)
    have hl : s.data.toList = s[0] :: s.data.toList.drop 1 := drop_at s 0 h0
    by_cases h45 : s[0].toNat = 45
    · have e45 : s[0] = 45 := UInt8.toNat_inj.mp (by rw [h45]; rfl)
      have hm : ((s[0].toNat : Int) == 45) = true := beq_iff_eq.mpr (by omega)
      have hp : parseN s.data.toList = ans true (s.data.toList.drop 1) := by
        have : (s.data.toList.head? == some 45) = true := by rw [hl, e45]; rfl
        unfold parseN ans
        simp only [this, if_true]
      by_cases h1 : 1 < s.size
      · have hz1 : ((s.size : Int) == 1) = false := beq_eq_false_iff_ne.mpr (by omega)
        have hl1 : s.data.toList.drop 1 = s[1] :: s.data.toList.drop 2 := drop_at s 1 h1
        by_cases h48 : s[1].toNat = 48
        · have e48 : s[1] = 48 := UInt8.toNat_inj.mp (by rw [h48]; rfl)
          have hb : ans true (s.data.toList.drop 1) = (0, 5) := by
            unfold ans bad
            rw [hl1, e48]; simp
          rw [hp, hb]
          exact ref_signzero s w hs h1 hm hz1 (beq_iff_eq.mpr (by omega))
        · have hb := ref_all s 1 true (by rw [hl1]; exact List.cons_ne_nil _ _) (by
            rintro ⟨h, _⟩
            rw [hl1] at h
            have : s[1] = 48 := by simpa using h
            exact h48 (by rw [this]; rfl))
          rw [hp]
          exact ref_minus s _ w hs h1 hm hz1 (beq_eq_false_iff_ne.mpr (by omega)) ⟨ans_bad hb⟩ ⟨fun ha hv => (ans_told hb ha).trans (told_over hv)⟩ ⟨fun ha v hv he => (ans_told hb ha).trans (told_neg hv he)⟩
      · have hb : ans true (s.data.toList.drop 1) = (0, 5) := by
          rw [List.drop_eq_nil_of_le (by omega)]; rfl
        rw [hp, hb]
        exact ref_sign s w h0 hm (beq_iff_eq.mpr (by omega))
    · have hm : ((s[0].toNat : Int) == 45) = false := beq_eq_false_iff_ne.mpr (by omega)
      have hp : parseN s.data.toList = ans false (s.data.toList.drop 0) := by
        have : (s.data.toList.head? == some 45) = false := by
          rw [Bool.eq_false_iff]; intro h; rw [hl] at h
          have : s[0] = 45 := by simpa using h
          exact h45 (by rw [this]; rfl)
        unfold parseN ans
        simp only [this, Bool.false_eq_true, if_false, List.drop_zero]
      have hne : s.data.toList.drop 0 ≠ [] := by rw [List.drop_zero, hl]; exact List.cons_ne_nil _ _
      by_cases h48 : s[0].toNat = 48
      · have e48 : s[0] = 48 := UInt8.toNat_inj.mp (by rw [h48]; rfl)
        by_cases h1 : 1 < s.size
        · have hb : ans false (s.data.toList.drop 0) = (0, 5) := by
            have hlt : decide (1 < (s.data.toList.drop 0).length) = true := decide_eq_true (by rw [List.drop_zero]; omega)
            have hh : ((s.data.toList.drop 0).head? == some 48) = true := by rw [List.drop_zero, hl, e48]; rfl
            unfold ans bad
            rw [hlt, hh]; simp
          rw [hp, hb]
          exact ref_zero s w h0 hm hz (beq_iff_eq.mpr (by omega)) (decide_eq_true (by omega))
        · have hb := ref_all s 0 false hne (by
            rintro ⟨_, h | h⟩
            · rw [List.drop_zero] at h; omega
            · cases h)
          rw [hp]
          exact ref_nought s _ w hs h0 hm hz (beq_iff_eq.mpr (by omega)) (decide_eq_false (by omega)) ⟨ans_bad hb⟩ ⟨fun ha hv => (ans_told hb ha).trans (hv.elim told_over told_edge)⟩ ⟨fun ha v hv he => (ans_told hb ha).trans (told_pos hv he)⟩
      · have hb := ref_all s 0 false hne (by
          rintro ⟨h, _⟩
          rw [List.drop_zero, hl] at h
          have : s[0] = 48 := by simpa using h
          exact h48 (by rw [this]; rfl))
        rw [hp]
        exact ref_plain s _ w hs h0 hm hz (beq_eq_false_iff_ne.mpr (by omega)) ⟨ans_bad hb⟩ ⟨fun ha hv => (ans_told hb ha).trans (hv.elim told_over told_edge)⟩ ⟨fun ha v hv he => (ans_told hb ha).trans (told_pos hv he)⟩
  · have hn : s.data.toList = [] := List.eq_nil_of_length_eq_zero (by omega)
    rw [hn]
    exact ref_empty s w hs (beq_iff_eq.mpr (by omega))
end Go.Proofs.YtklclcenfjecpaaDoor.DoorWalk
