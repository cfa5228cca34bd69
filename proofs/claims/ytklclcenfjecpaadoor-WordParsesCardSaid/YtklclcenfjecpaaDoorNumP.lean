/- Plain numbers for the laws WordDigits, WordParses, WordBack: which number a text is, a number's digits; no program in sight. -/
import Derived.Test.YtklclcenfjecpaaDoorNumA
import Derived.Lib.ParseIntB
import Derived.Lib.ItoaNum
import Derived.Lib.SlTrimSet
import Derived.Lib.Strings
namespace Go.Proofs.YtklclcenfjecpaaDoor.Num
open Go.RowKit
/-- Is a byte a digit? -/
def dig (c : UInt8) : Bool := decide (48 ≤ c.toNat ∧ c.toNat ≤ 57)
/-- What digits spell, behind what was spelled. -/
def val (acc : Nat) (l : List UInt8) : Nat := l.foldl (fun a c => a * 10 + (c.toNat - 48)) acc
theorem val_nil (acc : Nat) : val acc [] = acc := rfl
theorem val_cons (acc : Nat) (c : UInt8) (r : List UInt8) : val acc (c :: r) = val (acc * 10 + (c.toNat - 48)) r := by unfold val; rw [List.foldl_cons]
theorem val_ge (l : List UInt8) : ∀ acc, acc ≤ val acc l := by
  induction l with
  | nil => intro acc; exact Nat.le_refl _
  | cons c r ih =>
    intro acc
    rw [val_cons]
    refine Nat.le_trans ?_ (ih _)
    omega
theorem pm_nil (M acc : Nat) : Lib.parseUintM M acc [] = .ok acc := rfl
theorem pm_cons (M acc : Nat) (c : UInt8) (r : List UInt8) : Lib.parseUintM M acc (c :: r) = if 48 ≤ c.toNat ∧ c.toNat ≤ 57 then (if 1844674407370955162 ≤ acc then .range else if M < acc * 10 + (c.toNat - 48) then .range else Lib.parseUintM M (acc * 10 + (c.toNat - 48)) r) else .syntax := rfl
theorem parseM (M : Nat) (hM : M < 18446744073709551620) (l : List UInt8) : ∀ acc, l.all dig = true → acc ≤ M →
    Lib.parseUintM M acc l = if val acc l ≤ M then .ok (val acc l) else .range := by
  induction l with
  | nil => intro acc _ h; rw [pm_nil, val_nil, if_pos h]
  | cons c r ih =>
    intro acc hd h
    rw [List.all_cons, Bool.and_eq_true] at hd
    have hc : 48 ≤ c.toNat ∧ c.toNat ≤ 57 := of_decide_eq_true hd.1
    rw [pm_cons, val_cons]
    have hg := val_ge r (acc * 10 + (c.toNat - 48))
    have ih2 := fun h3 => ih (acc * 10 + (c.toNat - 48)) hd.2 h3
    rw [if_pos hc]
    generalize val (acc * 10 + (c.toNat - 48)) r = v at *
    have ht : acc * 10 ≤ acc * 10 + (c.toNat - 48) := Nat.le_add_right _ _
    generalize acc * 10 + (c.toNat - 48) = t at hg ih2 ht ⊢
    by_cases h1 : 1844674407370955162 ≤ acc
    · rw [if_pos h1, if_neg (by omega)]
    · rw [if_neg h1]
      by_cases h2 : M < t
      · rw [if_pos h2, if_neg (by omega)]
      · rw [if_neg h2]; exact ih2 (by omega)
def top64 : Nat := 2 ^ 64 - 1
theorem top64_eq : top64 = 18446744073709551615 := by unfold top64; omega
theorem parseB (l : List UInt8) (h0 : l ≠ []) (hd : l.all dig = true) :
    Lib.parseUintB 64 l = if val 0 l ≤ top64 then .ok (val 0 l) else .range := by
  unfold Lib.parseUintB
  rw [if_neg h0]
  exact parseM top64 (by rw [top64_eq]; omega) l 0 hd (Nat.zero_le _)
/-- Is a text behind its sign out of form? -/
def bad (minus : Bool) (d : List UInt8) : Bool := d.isEmpty || !(d.all dig) || (d.head? == some 48 && (decide (1 < d.length) || minus))
/-- The number of what is in form. -/
def told (minus : Bool) (d : List UInt8) : Int × Int :=
  if val 0 d > 4611686018427387904 ∨ (val 0 d = 4611686018427387904 ∧ minus = false) then (0, 2)
  else if minus then (enc (-(val 0 d : Int)), 0) else (enc (val 0 d), 0)
/-- Which number a text is, or what is wrong. -/
def parseN (l : List UInt8) : Int × Int :=
  let minus := l.head? == some 45
  let d := if minus then l.drop 1 else l
  if bad minus d then (0, 5) else told minus d
/-- Trimmed of digits nothing is left: all are digits. -/
theorem dropWhile_nil {α : Type} (p : α → Bool) (l : List α) : l.dropWhile p = [] ↔ l.all p = true := by
  induction l with
  | nil => simp
  | cons a r ih =>
    by_cases h : p a = true
    · simp [h, ih]
    · simp [h]
def ten : List UInt8 := [48, 49, 50, 51, 52, 53, 54, 55, 56, 57]
theorem ten_dig (c : UInt8) : ten.contains c = dig c := by
  unfold ten dig
  rw [Bool.eq_iff_iff, decide_eq_true_iff]
  simp only [List.contains_cons, List.contains_nil, Bool.or_false, Bool.or_eq_true, beq_iff_eq, ← UInt8.toNat_inj]
  simp
  omega
theorem trim_nil (l : List UInt8) : Lib.trimS l ten = [] ↔ l.all dig = true := by
  have e : (fun c => ten.contains c) = dig := funext ten_dig
  unfold Lib.trimS Lib.trimLeftS Lib.trimRightS
  simp only [e]
  rw [dropWhile_nil, List.all_reverse]
  constructor
  · intro h
    have h2 := List.takeWhile_append_dropWhile (p := dig) (l := l.reverse)
    have h3 : l.reverse.all dig = true := by
      rw [← h2, List.all_append, h, Bool.and_true, List.all_eq_true]
      intro x hx
      exact (List.all_eq_true.mp (List.all_takeWhile (p := dig) (l := l.reverse))) x hx
    rwa [List.all_reverse] at h3
  · intro h
    rw [List.all_eq_true] at h ⊢
    intro x hx
    exact h x (List.mem_reverse.mp ((List.dropWhile_sublist _).subset hx))
/-! A number's digits, there and back. -/
theorem dec_dig (u : Nat) : (Lib.decDigits u).all dig = true := by
  induction u using Nat.strongRecOn with
  | _ u ih =>
    rw [Lib.decDigits]
    split
    · rename_i h
      simp only [List.all_cons, List.all_nil, Bool.and_true]
      unfold dig; rw [decide_eq_true_iff, UInt8.toNat_ofNat']; omega
    · rename_i h
      rw [List.all_append, ih _ (by omega)]
      simp only [List.all_cons, List.all_nil, Bool.and_true, Bool.true_and]
      unfold dig; rw [decide_eq_true_iff, UInt8.toNat_ofNat']; omega
theorem val_append (l : List UInt8) (c : UInt8) : ∀ acc, val acc (l ++ [c]) = val acc l * 10 + (c.toNat - 48) := by
  induction l with
  | nil => intro acc; rfl
  | cons a r ih => intro acc; rw [List.cons_append, val_cons, val_cons]; exact ih _
theorem dec_val (u : Nat) : val 0 (Lib.decDigits u) = u := by
  induction u using Nat.strongRecOn with
  | _ u ih =>
    rw [Lib.decDigits]
    split
    · rename_i h
      rw [val_cons, val_nil, UInt8.toNat_ofNat']; omega
    · rename_i h
      rw [val_append, ih _ (by omega), UInt8.toNat_ofNat']; omega
theorem dec_ne (u : Nat) : Lib.decDigits u ≠ [] := by
  rw [Lib.decDigits]; split
  · exact List.cons_ne_nil _ _
  · exact List.append_ne_nil_of_right_ne_nil _ (List.cons_ne_nil _ _)
theorem dec_head (u : Nat) : 10 ≤ u → (Lib.decDigits u).head? ≠ some 48 := by
  induction u using Nat.strongRecOn with
  | _ u ih =>
    intro h
    rw [Lib.decDigits, dif_neg (by omega)]
    rw [List.head?_append]
    by_cases h2 : 10 ≤ u / 10
    · have := ih (u / 10) (by omega) h2
      cases hh : (Lib.decDigits (u / 10)).head? with
      | none => exact absurd (List.head?_eq_none_iff.mp hh) (dec_ne _)
      | some c => rw [hh] at this; simpa using this
    · rw [Lib.decDigits, dif_pos (by omega)]
      simp only [List.head?_cons, Option.some_or, ne_eq, Option.some.injEq]
      intro hc
      have := congrArg UInt8.toNat hc
      rw [UInt8.toNat_ofNat'] at this
      have : (48 : UInt8).toNat = 48 := rfl
      omega
theorem dec_len (u : Nat) (h : u < 10) : (Lib.decDigits u).length = 1 := by rw [Lib.decDigits, dif_pos h]; rfl
theorem dec_head0 (u : Nat) (h : u < 10) (h0 : 0 < u) : (Lib.decDigits u).head? ≠ some 48 := by
  rw [Lib.decDigits, dif_pos h]
  simp only [List.head?_cons, ne_eq, Option.some.injEq]
  intro hc
  have := congrArg UInt8.toNat hc
  rw [UInt8.toNat_ofNat'] at this
  have : (48 : UInt8).toNat = 48 := rfl
  omega
theorem dec_no45 (u : Nat) : ((Lib.decDigits u).head? == some 45) = false := by
  have h := dec_dig u
  have hn := dec_ne u
  cases hd : Lib.decDigits u with
  | nil => exact absurd hd hn
  | cons c r =>
    rw [hd, List.all_cons, Bool.and_eq_true] at h
    have hc := of_decide_eq_true h.1
    simp only [List.head?_cons]
    rw [Bool.eq_false_iff]
    intro he
    have : c = 45 := by simpa using he
    subst this
    revert hc; decide
/-- A number's digits are read as it. -/
theorem parse_itoa (n : Int) (h0 : -4611686018427387904 ≤ n) (h1 : n < 4611686018427387904) : parseN (Lib.itoa n) = (enc n, 0) := by
  unfold Lib.itoa
  by_cases hn : n < 0
  · rw [if_pos hn]
    unfold parseN
    have hm : (((45 : UInt8) :: Lib.decDigits n.natAbs).head? == some 45) = true := by simp
    simp only [hm, if_true, List.drop_succ_cons, List.drop_zero]
    have hb : bad true (Lib.decDigits n.natAbs) = false := by
      unfold bad
      have e1 : (Lib.decDigits n.natAbs).isEmpty = false := by simpa using dec_ne n.natAbs
      have e2 : ((Lib.decDigits n.natAbs).head? == some 48) = false := by
        by_cases h : n.natAbs < 10
        · simpa using dec_head0 n.natAbs h (by omega)
        · simpa using dec_head n.natAbs (by omega)
      rw [e1, e2, dec_dig]; rfl
    rw [hb]
    simp only [Bool.false_eq_true, if_false]
    unfold told
    rw [dec_val, if_neg (by simp; omega), if_pos rfl]
    congr 2; omega
  · rw [if_neg hn]
    unfold parseN
    simp only [dec_no45, Bool.false_eq_true, if_false]
    have hb : bad false (Lib.decDigits n.toNat) = false := by
      unfold bad
      have e1 : (Lib.decDigits n.toNat).isEmpty = false := by simpa using dec_ne n.toNat
      rw [e1, dec_dig]
      by_cases h : n.toNat < 10
      · rw [dec_len _ h]; simp
      · have e2 : ((Lib.decDigits n.toNat).head? == some 48) = false := by simpa using dec_head n.toNat (by omega)
        rw [e2]; rfl
    rw [hb]
    simp only [Bool.false_eq_true, if_false]
    unfold told
    rw [dec_val, if_neg (by omega), if_neg (by simp)]
    congr 2; omega
theorem parse_01 : parseN [48, 49] = (0, 5) := by decide
end Go.Proofs.YtklclcenfjecpaaDoor.Num
