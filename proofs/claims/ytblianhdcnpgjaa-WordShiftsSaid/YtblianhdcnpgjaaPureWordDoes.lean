/- The law WordDoes over numbers alone: what an operation tells of any two words, and what is wrong, is the same in program and reference; for every int and every two 64-bit words. -/
import Derived.Test.YtblianhdcnpgjaaPWordDoesx3
import Derived.Test.YtblianhdcnpgjaaNumA
namespace Go.Proofs.Ytblianhdcnpgjaa.Pure
open Go.RowKit Go.Proofs.Ytblianhdcnpgjaa.PWordDoes Go.Proofs.YtblianhdcnpgjaaW.PrintWords Go.Proofs.YtblianhdcnpgjaaW.PrintLast
open Go.Proofs.Ytblianhdcnpgjaa.Num


theorem wInt (a : Int) : word_Int.f a = some (enc a) := by unfold word_Int.f; rw [word_enc]

theorem wNum (a : Int) : word_Num.f a = some (num a) := rfl
theorem wShifted (k : Nat) (a b : Int) (l : Bool) : word_shifted.f (k + 2) a b l = some (if l then (if b < 0 ∨ b > 62 then 0 else wrap64 (a * 2 ^ b.toNat)) else (if b < 0 ∨ b > 62 then a / 4611686018427387904 else a / 2 ^ b.toNat)) := by
  unfold word_shifted.f
  have hl : 0 ≤ b → ¬ b > 62 → shl .i64 a b = wrap64 (a * 2 ^ b.toNat) := by
    intro h0 h1
    have : min b.toNat IntKind.i64.bits = b.toNat := Nat.min_eq_left (show b.toNat ≤ 64 by omega)
    unfold shl; rw [this, i64w]
  have hr : 0 ≤ b → ¬ b > 62 → shr .i64 a b = a / 2 ^ b.toNat := by
    intro h0 h1
    have : min b.toNat IntKind.i64.bits = b.toNat := Nat.min_eq_left (show b.toNat ≤ 64 by omega)
    unfold shr; rw [this]
  by_cases h0 : b < 0
  · rw [if_pos h0]
    cases l <;> simp [word_shifted.j0, word_shifted.j1, h0]
  · rw [if_neg h0]
    by_cases h1 : b > 62
    · cases l <;> simp [word_shifted.j0, word_shifted.j1, h1]
    · have h2 : ¬ (b < 0 ∨ b > 62) := by omega
      have h3 : 0 ≤ b := by omega
      rw [decide_eq_false h1]
      cases l <;> simp only [word_shifted.j0, word_shifted.j1, if_neg h2, if_pos h3, hl h3 h1, hr h3 h1, if_false, if_true, Bool.false_eq_true]
theorem wDo (k : Nat) (op v w : Int) : word_Do.f (k + 3) op v w = some (doN op (num v) (num w)) := by
  unfold word_Do.f doN
  simp only [wNum, Option.bind_some, wInt, enc_wrap]
  by_cases h1 : op = 1; · simp [h1]
  rw [if_neg h1, if_neg h1]
  by_cases h2 : op = 2; · simp [h2]
  rw [if_neg h2, if_neg h2]
  by_cases h3 : op = 3; · simp [h3]
  rw [if_neg h3, if_neg h3]
  by_cases h4 : op = 4
  · rw [if_pos h4, if_pos h4]
    by_cases hb : num w = 0 <;> simp [hb, word_Do.j1]
  rw [if_neg h4, if_neg h4]
  by_cases h5 : op = 5
  · rw [if_pos h5, if_pos h5]
    by_cases hb : num w = 0 <;> simp [hb, word_Do.j1, wInt]
  rw [if_neg h5, if_neg h5]
  by_cases h6 : op = 6; · simp [h6]
  rw [if_neg h6, if_neg h6]
  by_cases h7 : op = 7; · simp [h7]
  rw [if_neg h7, if_neg h7]
  by_cases h8 : op = 8; · simp [h8]
  rw [if_neg h8, if_neg h8]
  by_cases h9 : op = 9
  · subst h9
    rw [if_pos rfl, if_pos rfl]
    simp only [word_Do.j0, beq_self_eq_true, if_true, wShifted, Option.bind_some, wInt]
    split
    · rfl
    · rw [enc_wrap]
  rw [if_neg h9, if_neg h9]
  by_cases h10 : op = 10
  · subst h10
    rw [if_pos rfl]
    simp [word_Do.j0, wShifted, wInt]
  rw [if_neg h10]
  have e10 : (op == 10) = false := by simpa using h10
  simp only [word_Do.j0, e10, Bool.false_eq_true, if_false]
  by_cases h11 : op = 11
  · rw [if_pos h11, if_pos h11]
    by_cases hlt : num v < num w <;> simp [hlt, wInt]
  · rw [if_neg h11, if_neg h11]
theorem rCut (n : Int) (h0 : -9223372036854775808 ≤ n) (h : n ≤ 9223372036854775807) : grapnelref01_cut.f n = some (cut n) := ref_cut n h0 h
theorem rInt (n : Int) (h0 : -9223372036854775808 ≤ n) (h : n ≤ 9223372036854775807) : grapnelref01_Int.f n = some (enc n) := by
  unfold grapnelref01_Int.f
  rw [rCut n h0 h]
  exact (ref_enc (cut n)).trans (by rw [enc_cut])
theorem rNum (w : Int) (h0 : 0 ≤ w) (h : w ≤ 18446744073709551615) : grapnelref01_Num.f w = some (num w) := ref_num w h0 h

/-- The bits of a number, 63 of them. -/
def B (n : Int) : Nat := (n % 9223372036854775808).toNat
theorem B_lt (n : Int) : B n < 2 ^ 63 := by unfold B; omega
theorem shr_u (m i : Nat) (hi : i ≤ 62) : shr .u64 ((2 * m + 1 : Nat) : Int) ((i + 1 : Nat) : Int) = ((m / 2 ^ i : Nat) : Int) := by
  unfold shr
  have e : min (((i + 1 : Nat) : Int)).toNat IntKind.u64.bits = i + 1 := by
    rw [Int.toNat_natCast]; exact Nat.min_eq_left (show i + 1 ≤ 64 by omega)
  rw [e]
  have h2 : (2 * m + 1) / 2 ^ (i + 1) = m / 2 ^ i := by
    rw [Nat.pow_succ', ← Nat.div_div_eq_div_mul]
    congr 1; omega
  rw [← h2, Int.natCast_ediv, Int.natCast_pow]; rfl
theorem rBit (n : Int) (i : Nat) (h0 : -9223372036854775808 ≤ n) (h : n ≤ 9223372036854775807) (hi : i ≤ 62) : grapnelref01_bit.f n i = some ((B n).testBit i) := by
  unfold grapnelref01_bit.f
  have e1 : wrap64 ((i : Int) + 1) = ((i + 1 : Nat) : Int) := by unfold wrap64; omega
  have e2 : enc n = ((2 * B n + 1 : Nat) : Int) := by unfold enc B; omega
  rw [rInt n h0 h, e1, e2]
  simp only [Option.bind_some, shr_u _ i hi]
  rw [if_pos (by omega), Int.tmod_eq_emod_of_nonneg (Int.natCast_nonneg _), Nat.testBit_eq_decide_div_mod_eq]
  congr 1
  rw [Bool.eq_iff_iff, beq_iff_eq, decide_eq_true_iff]; omega
theorem B_half (n : Int) (e : Nat) : B n / 2 ^ e = 2 * (B n / 2 ^ (e + 1)) + if (B n).testBit e then 1 else 0 := by
  rw [Nat.testBit_eq_decide_div_mod_eq, Nat.pow_succ, ← Nat.div_div_eq_div_mul]
  generalize B n / 2 ^ e = m
  by_cases h : m % 2 = 1
  · simp [h]; omega
  · simp [h]; omega
theorem cut_dbl {n z p : Int} (h : cut n = cut z) (e : p = 2 * n) : cut (cut z + cut z) = cut p := by unfold cut at *; omega
theorem cut_more {n z p a : Int} (h : cut n = cut z) (e : p = n + a) : cut (cut z + a) = cut p := by unfold cut at *; omega
theorem cut_cut (n : Int) : cut (cut n) = cut n := by unfold cut; omega
theorem rTimes (a b : Int) (a0 : -4611686018427387904 ≤ a) (a1 : a < 4611686018427387904) (b0 : -4611686018427387904 ≤ b) (b1 : b < 4611686018427387904) (d : Nat) : ∀ (k : Nat) (x : Int), d ≤ 63 → x = cut (a * (B b / 2 ^ d : Nat)) → d < k → grapnelref01_times.l0 k a b x ((d : Int) - 1) = some (cut (a * B b)) := by
  induction d with
  | zero =>
    intro k x _ hx hk
    obtain ⟨k, rfl⟩ : ∃ m, k = m + 1 := ⟨k - 1, by omega⟩
    simp only [grapnelref01_times.l0]
    rw [if_neg (by omega), hx, Nat.pow_zero, Nat.div_one]
  | succ e ih =>
    intro k x hd hx hk
    obtain ⟨k, rfl⟩ : ∃ m, k = m + 1 := ⟨k - 1, by omega⟩
    simp only [grapnelref01_times.l0]
    have hi : ((e + 1 : Nat) : Int) - 1 = (e : Int) := by omega
    have hw : wrap64 ((e : Int) - 1) = (e : Int) - 1 := by unfold wrap64; omega
    have bx : -4611686018427387904 ≤ x ∧ x < 4611686018427387904 := by rw [hx]; exact cut_bd _
    have w1 : wrap64 (x + x) = x + x := by unfold wrap64; omega
    have hB := B_half b e
    generalize hq : B b / 2 ^ (e + 1) = q at *
    have hc : cut (x + x) = cut (a * (2 * q : Nat)) := by
      rw [hx]; refine cut_dbl rfl ?_
      rw [Int.natCast_mul, ← Int.mul_assoc, Int.mul_comm a, Int.mul_assoc]; rfl
    rw [hi, if_pos (by omega), w1, rCut _ (by omega) (by omega), rBit b e (by omega) (by omega) (by omega), hw, hc]
    simp only [Option.bind_some]
    have by_ := cut_bd (a * (2 * q : Nat))
    by_cases ht : (B b).testBit e = true
    · rw [ht] at hB
      have w2 : wrap64 (cut (a * (2 * q : Nat)) + a) = cut (a * (2 * q : Nat)) + a := by unfold wrap64; omega
      rw [if_pos ht, w2, rCut _ (by omega) (by omega)]
      simp only [Option.bind_some]
      refine ih k _ (by omega) ?_ (by omega)
      refine cut_more rfl ?_
      rw [hB]; simp only [if_true]; rw [Int.natCast_add, Int.mul_add]; simp
    · rw [if_neg ht]
      refine ih k _ (by omega) ?_ (by omega)
      rw [hB, if_neg ht]; rfl
theorem rTimesAll (k : Nat) (hk : 64 ≤ k) (a b : Int) (a0 : -4611686018427387904 ≤ a) (a1 : a < 4611686018427387904) (b0 : -4611686018427387904 ≤ b) (b1 : b < 4611686018427387904) : grapnelref01_times.f k a b = some (cut (a * B b)) := by
  unfold grapnelref01_times.f
  refine rTimes a b a0 a1 b0 b1 63 k 0 (by omega) ?_ (by omega)
  rw [Nat.div_eq_of_lt (B_lt b)]; simp [cut]
theorem enc_mul (a b : Int) : enc (cut (a * B b)) = enc (a * b) := by
  rw [enc_cut]
  have h : (B b : Int) = b + 9223372036854775808 * -(b / 9223372036854775808) := by unfold B; omega
  generalize -(b / 9223372036854775808) = c at h
  refine enc_of (c := a * c) ?_
  rw [h, Int.mul_add, ← Int.mul_assoc, Int.mul_comm a 9223372036854775808, Int.mul_assoc]
/-- Doubled, so often. -/
theorem rTwiceL (b : Int) (hb : b ≤ 62) (d : Nat) : ∀ (k : Nat) (x i : Int), -4611686018427387904 ≤ x → x < 4611686018427387904 → 0 ≤ i → i + d = b → d < k → grapnelref01_twice.l0 k x b i = some (cut (x * 2 ^ d)) := by
  induction d with
  | zero =>
    intro k x i x0 x1 i0 hi hk
    obtain ⟨k, rfl⟩ : ∃ m, k = m + 1 := ⟨k - 1, by omega⟩
    simp only [grapnelref01_twice.l0]
    rw [if_neg (by omega), Int.pow_zero, Int.mul_one, cut_in ⟨x0, x1⟩]
  | succ e ih =>
    intro k x i x0 x1 i0 hi hk
    obtain ⟨k, rfl⟩ : ∃ m, k = m + 1 := ⟨k - 1, by omega⟩
    simp only [grapnelref01_twice.l0]
    have w1 : wrap64 (x + x) = x + x := by unfold wrap64; omega
    have w2 : wrap64 (i + 1) = i + 1 := by unfold wrap64; omega
    have bd := cut_bd (x + x)
    rw [if_pos (by omega), w1, w2, rCut _ (by omega) (by omega)]
    simp only [Option.bind_some]
    rw [ih k _ (i + 1) bd.1 bd.2 (by omega) (by omega) (by omega)]
    obtain ⟨c, hc⟩ := cut_form (x + x)
    congr 1
    refine cut_of (c := c * 2 ^ e) ?_
    rw [hc, Int.add_mul, Int.pow_succ, Int.mul_comm (2 ^ e) 2, ← Int.mul_assoc x, Int.mul_assoc 9223372036854775808]
    congr 2; omega
theorem rTwice (k : Nat) (hk : 65 ≤ k) (a b : Int) (a0 : -4611686018427387904 ≤ a) (a1 : a < 4611686018427387904) : grapnelref01_twice.f k a b = some (if b < 0 ∨ b > 62 then 0 else cut (a * 2 ^ b.toNat)) := by
  unfold grapnelref01_twice.f
  obtain ⟨k, rfl⟩ : ∃ m, k = m + 1 := ⟨k - 1, by omega⟩
  by_cases h0 : b < 0
  · simp [h0, grapnelref01_twice.j0]
  · by_cases h1 : b > 62
    · simp [h1, grapnelref01_twice.j0]
    · rw [if_neg h0, decide_eq_false h1, if_neg (by omega)]
      simp only [grapnelref01_twice.j0, Bool.false_eq_true, if_false]
      exact rTwiceL b (by omega) b.toNat k a 0 a0 a1 (by omega) (by omega) (by omega)
theorem tdiv_two (x : Int) : Int.tdiv x 2 = if x < 0 then -(-x / 2) else x / 2 := by
  split
  · rw [← Int.neg_neg x, Int.neg_tdiv, Int.tdiv_eq_ediv_of_nonneg (by omega), Int.neg_neg]
  · rw [Int.tdiv_eq_ediv_of_nonneg (by omega)]
/-- Halved, rounded down, so often. -/
theorem rHalfL (b : Int) (hb : b ≤ 63) (d : Nat) : ∀ (k : Nat) (x i : Int), -4611686018427387904 ≤ x → x < 4611686018427387904 → 0 ≤ i → i + d = b → d < k → grapnelref01_half.l0 k x b i = some (x / 2 ^ d) := by
  induction d with
  | zero =>
    intro k x i x0 x1 i0 hi hk
    obtain ⟨k, rfl⟩ : ∃ m, k = m + 1 := ⟨k - 1, by omega⟩
    simp only [grapnelref01_half.l0]
    rw [if_neg (by omega), Int.pow_zero, Int.ediv_one]
  | succ e ih =>
    intro k x i x0 x1 i0 hi hk
    obtain ⟨k, rfl⟩ : ∃ m, k = m + 1 := ⟨k - 1, by omega⟩
    simp only [grapnelref01_half.l0]
    have w2 : wrap64 (i + 1) = i + 1 := by unfold wrap64; omega
    have hx : x / 2 ^ (e + 1) = x / 2 / 2 ^ e := by
      rw [Int.pow_succ, Int.mul_comm, Int.ediv_ediv_of_nonneg (by omega)]
    have next : grapnelref01_half.l0 k (x / 2) b (i + 1) = some (x / 2 / 2 ^ e) := ih k (x / 2) (i + 1) (by omega) (by omega) (by omega) (by omega) (by omega)
    rw [if_pos (by omega), w2, hx]
    by_cases hn : x < 0
    · rw [if_pos hn]
      have h1 := tdiv_two x
      have h2 := Int.tdiv_mul_add_tmod x 2
      rw [if_pos hn] at h1
      by_cases hm : Int.tmod x 2 = 0
      · have : wrap64 (Int.tdiv x 2) = x / 2 := by unfold wrap64; omega
        rw [if_pos hm, this, next]
      · have w3 : wrap64 (x - 1) = x - 1 := by unfold wrap64; omega
        have h3 := tdiv_two (x - 1)
        rw [if_pos (by omega)] at h3
        have : wrap64 (Int.tdiv (wrap64 (x - 1)) 2) = x / 2 := by rw [w3]; unfold wrap64; omega
        rw [if_neg hm, this, next]
    · have h1 := tdiv_two x
      rw [if_neg hn] at h1
      have : wrap64 (Int.tdiv x 2) = x / 2 := by unfold wrap64; omega
      rw [if_neg hn, this, next]
theorem rHalf (k : Nat) (hk : 70 ≤ k) (a b : Int) (a0 : -4611686018427387904 ≤ a) (a1 : a < 4611686018427387904) : grapnelref01_half.f k a b = some (if b < 0 ∨ b > 62 then a / 4611686018427387904 else a / 2 ^ b.toNat) := by
  unfold grapnelref01_half.f
  obtain ⟨k, rfl⟩ : ∃ m, k = m + 2 := ⟨k - 2, by omega⟩
  have far : grapnelref01_half.l0 k a 63 0 = some (a / 4611686018427387904) := by
    rw [rHalfL 63 (by omega) 63 k a 0 a0 a1 (by omega) (by omega) (by omega)]
    congr 1; omega
  by_cases h0 : b < 0
  · simp only [h0, grapnelref01_half.j0, grapnelref01_half.j1, if_true, true_or, far]
  · by_cases h1 : b > 62
    · rw [if_neg h0, decide_eq_true h1, if_pos (by omega)]
      simp only [grapnelref01_half.j0, grapnelref01_half.j1, if_true, far]
    · rw [if_neg h0, decide_eq_false h1, if_neg (by omega)]
      simp only [grapnelref01_half.j0, grapnelref01_half.j1, Bool.false_eq_true, if_false]
      exact rHalfL b (by omega) b.toNat k a 0 a0 a1 (by omega) (by omega) (by omega)
/-- Which bit both, either or one alone have. -/
def fn (op : Int) (x y : Bool) : Bool := if op = 6 then x && y else if op = 7 then x || y else x != y
theorem shl_u (i : Nat) (hi : i ≤ 62) : shl .u64 1 (wrap64 ((i : Int) + 1)) = 2 ^ (i + 1) := by
  have e1 : wrap64 ((i : Int) + 1) = ((i + 1 : Nat) : Int) := by unfold wrap64; omega
  have e : min (((i + 1 : Nat) : Int)).toNat IntKind.u64.bits = i + 1 := by
    rw [Int.toNat_natCast]; exact Nat.min_eq_left (show i + 1 ≤ 64 by omega)
  unfold shl
  rw [e1, e, u64w, Int.one_mul]
  have h1 : (2 : Nat) ^ (i + 1) ≤ 2 ^ 63 := Nat.pow_le_pow_right (by omega) (by omega)
  have h2 : ((2 ^ (i + 1) : Nat) : Int) = 2 ^ (i + 1) := by rw [Int.natCast_pow]; rfl
  rw [← h2]; exact Int.emod_eq_of_lt (Int.natCast_nonneg _) (by omega)
theorem rRound (k : Nat) (a b op w : Int) (i : Nat) (hop : op = 6 ∨ op = 7 ∨ op = 8) (hi : i ≤ 62) (a0 : -4611686018427387904 ≤ a) (a1 : a < 4611686018427387904) (b0 : -4611686018427387904 ≤ b) (b1 : b < 4611686018427387904) :
    grapnelref01_bits.l0 (k + 3) a b op w i = if fn op ((B a).testBit i) ((B b).testBit i) then grapnelref01_bits.l0 k a b op (IntKind.u64.wrap (w + 2 ^ (i + 1))) ((i + 1 : Nat) : Int) else grapnelref01_bits.l0 k a b op w ((i + 1 : Nat) : Int) := by
  have e1 : wrap64 ((i : Int) + 1) = ((i + 1 : Nat) : Int) := by unfold wrap64; omega
  have hs := shl_u i hi
  rw [e1] at hs
  have hp : (0 : Int) ≤ ((i + 1 : Nat) : Int) := by omega
  have hlt : (i : Int) < 63 := by omega
  simp only [grapnelref01_bits.l0, grapnelref01_bits.j1, grapnelref01_bits.j2, if_pos hlt, rBit a i (by omega) (by omega) hi, rBit b i (by omega) (by omega) hi, Option.bind_some, e1, hs, if_pos hp]
  rcases hop with rfl | rfl | rfl <;> cases (B a).testBit i <;> cases (B b).testBit i <;> simp [fn]
theorem rBits (a b op : Int) (C : Nat) (hC : C < 2 ^ 63) (hf : ∀ i, C.testBit i = fn op ((B a).testBit i) ((B b).testBit i)) (hop : op = 6 ∨ op = 7 ∨ op = 8) (a0 : -4611686018427387904 ≤ a) (a1 : a < 4611686018427387904) (b0 : -4611686018427387904 ≤ b) (b1 : b < 4611686018427387904) (d : Nat) :
    ∀ (k : Nat) (i : Nat) (w : Int), i + d = 63 → w = ((2 * (C % 2 ^ i) + 1 : Nat) : Int) → 3 * d < k → grapnelref01_bits.l0 k a b op w i = some (cut C) := by
  induction d with
  | zero =>
    intro k i w hi hw hk
    obtain ⟨k, rfl⟩ : ∃ m, k = m + 1 := ⟨k - 1, by omega⟩
    obtain rfl : i = 63 := by omega
    simp only [grapnelref01_bits.l0]
    rw [if_neg (by omega), hw, Nat.mod_eq_of_lt hC]
    have e : ((2 * C + 1 : Nat) : Int) = enc C := by unfold enc; omega
    rw [e, rNum _ (enc_ge _) (enc_le _), num_enc]; rfl
  | succ e ih =>
    intro k i w hi hw hk
    obtain ⟨k, rfl⟩ : ∃ m, k = m + 3 := ⟨k - 3, by omega⟩
    rw [rRound k a b op w i hop (by omega) a0 a1 b0 b1, ← hf i]
    have hm := Nat.mod_pow_succ (x := C) (b := 2) (k := i)
    have hlt : C % 2 ^ (i + 1) < 2 ^ (i + 1) := Nat.mod_lt _ (Nat.two_pow_pos _)
    have hle : (2 : Nat) ^ (i + 1) ≤ 2 ^ 63 := Nat.pow_le_pow_right (by omega) (by omega)
    have hps : (2 : Nat) ^ (i + 1) = 2 ^ i * 2 := Nat.pow_succ 2 i
    by_cases ht : C.testBit i = true
    · rw [if_pos ht]
      have h1 : C / 2 ^ i % 2 = 1 := by rw [Nat.testBit_eq_decide_div_mod_eq] at ht; exact of_decide_eq_true ht
      refine ih k (i + 1) _ (by omega) ?_ (by omega)
      rw [h1] at hm
      have h2 : ((2 ^ (i + 1) : Nat) : Int) = 2 ^ (i + 1) := by rw [Int.natCast_pow]; rfl
      rw [u64w, ← h2, hw]
      omega
    · rw [if_neg ht]
      have h1 : C / 2 ^ i % 2 = 0 := by rw [Nat.testBit_eq_decide_div_mod_eq] at ht; have := mt decide_eq_true ht; omega
      refine ih k (i + 1) _ (by omega) ?_ (by omega)
      rw [h1] at hm
      rw [hw, hm]; simp
theorem rBitsAll (k : Nat) (hk : 190 ≤ k) (a b op : Int) (C : Nat) (hC : C < 2 ^ 63) (hf : ∀ i, C.testBit i = fn op ((B a).testBit i) ((B b).testBit i)) (hop : op = 6 ∨ op = 7 ∨ op = 8) (a0 : -4611686018427387904 ≤ a) (a1 : a < 4611686018427387904) (b0 : -4611686018427387904 ≤ b) (b1 : b < 4611686018427387904) :
    grapnelref01_bits.f k a b op = some (cut C) := by
  unfold grapnelref01_bits.f
  exact rBits a b op C hC hf hop a0 a1 b0 b1 63 k 0 1 (by omega) (by rw [Nat.pow_zero, Nat.mod_one]; rfl) (by omega)
theorem u_B (x : Int) : u x % 2 ^ 63 = B x := by unfold u B; omega
theorem enc_mod (n : Nat) : enc n = enc (cut ((n % 2 ^ 63 : Nat) : Int)) := by rw [enc_cut]; unfold enc; omega
theorem rAnd (k : Nat) (hk : 190 ≤ k) (a b : Int) (a0 : -4611686018427387904 ≤ a) (a1 : a < 4611686018427387904) (b0 : -4611686018427387904 ≤ b) (b1 : b < 4611686018427387904) : ∃ r, grapnelref01_bits.f k a b 6 = some (cut r) ∧ enc (cut r) = enc (Go.bits .and .i64 a b) := by
  refine ⟨_, rBitsAll k hk a b 6 (B a &&& B b) (Nat.and_lt_two_pow _ (B_lt b)) (fun i => ?_) (by omega) a0 a1 b0 b1, ?_⟩
  · rw [Nat.testBit_and]; rfl
  · rw [bits_and, enc_wrap, enc_mod (u a &&& u b), Nat.and_mod_two_pow, u_B, u_B]
theorem rOr (k : Nat) (hk : 190 ≤ k) (a b : Int) (a0 : -4611686018427387904 ≤ a) (a1 : a < 4611686018427387904) (b0 : -4611686018427387904 ≤ b) (b1 : b < 4611686018427387904) : ∃ r, grapnelref01_bits.f k a b 7 = some (cut r) ∧ enc (cut r) = enc (Go.bits .or .i64 a b) := by
  refine ⟨_, rBitsAll k hk a b 7 (B a ||| B b) (Nat.or_lt_two_pow (B_lt a) (B_lt b)) (fun i => ?_) (by omega) a0 a1 b0 b1, ?_⟩
  · rw [Nat.testBit_or]; rfl
  · rw [bits_or, enc_wrap, enc_mod (u a ||| u b), Nat.or_mod_two_pow, u_B, u_B]
theorem rXor (k : Nat) (hk : 190 ≤ k) (a b : Int) (a0 : -4611686018427387904 ≤ a) (a1 : a < 4611686018427387904) (b0 : -4611686018427387904 ≤ b) (b1 : b < 4611686018427387904) : ∃ r, grapnelref01_bits.f k a b 8 = some (cut r) ∧ enc (cut r) = enc (Go.bits .xor .i64 a b) := by
  refine ⟨_, rBitsAll k hk a b 8 (B a ^^^ B b) (Nat.xor_lt_two_pow (B_lt a) (B_lt b)) (fun i => ?_) (by omega) a0 a1 b0 b1, ?_⟩
  · rw [Nat.testBit_xor]; simp [fn]
  · rw [bits_xor, enc_wrap, enc_mod (u a ^^^ u b), Nat.xor_mod_two_pow, u_B, u_B]
theorem rDo (k : Nat) (hk : 200 ≤ k) (op v w : Int) (v0 : 0 ≤ v) (v1 : v ≤ 18446744073709551615) (w0 : 0 ≤ w) (w1 : w ≤ 18446744073709551615) : grapnelref01_Do.f k op v w = some (doN op (num v) (num w)) := by
  obtain ⟨k, rfl⟩ : ∃ m, k = m + 2 := ⟨k - 2, by omega⟩
  obtain ⟨a0, a1⟩ := num_bd v
  obtain ⟨b0, b1⟩ := num_bd w
  unfold grapnelref01_Do.f doN
  simp only [rNum v v0 v1, rNum w w0 w1, Option.bind_some]
  generalize num v = a at *
  generalize num w = b at *
  have rEnc : ∀ n, grapnelref01_Int.f (wrap64 n) = some (enc n) := by
    intro n; rw [rInt _ (by unfold wrap64; omega) (by unfold wrap64; omega), enc_wrap]
  have rCutI : ∀ n, grapnelref01_Int.f (cut n) = some (enc n) := by
    intro n; have := cut_bd n; rw [rInt _ (by omega) (by omega), enc_cut]
  by_cases h1 : op = 1; · simp [h1, rEnc]
  rw [if_neg h1, if_neg h1]
  by_cases h2 : op = 2; · simp [h2, rEnc]
  rw [if_neg h2, if_neg h2]
  by_cases h3 : op = 3
  · rw [if_pos h3, if_pos h3, rTimesAll _ (by omega) a b a0 a1 b0 b1, Option.bind_some, rCutI, ← enc_cut (a * B b), enc_mul]; rfl
  rw [if_neg h3, if_neg h3]
  by_cases h4 : op = 4
  · subst h4
    rw [if_pos rfl, if_pos rfl]
    simp only [grapnelref01_Do.j0, beq_self_eq_true, if_true]
    by_cases hb : b = 0
    · rw [if_pos hb, if_pos hb]
    · rw [if_neg hb, if_neg hb, if_neg (by omega), rEnc]; rfl
  rw [if_neg h4, if_neg h4]
  by_cases h5 : op = 5
  · subst h5
    rw [if_pos rfl]
    simp only [grapnelref01_Do.j0, beq_self_eq_true, if_true]
    by_cases hb : b = 0
    · rw [if_pos hb, if_pos hb]
    · obtain ⟨e1, e2, e3⟩ := quo_rest a b ⟨a0, a1⟩ ⟨b0, b1⟩ hb
      rw [if_neg hb, if_neg hb, rEnc, Option.bind_some]
      obtain ⟨c, hc⟩ := wrap_form (Int.tdiv a b * b)
      have wq : wrap64 (Int.tdiv a b) = Int.tdiv a b := by unfold wrap64; omega
      rw [wq, hc]
      congr 2
      refine enc_of (c := -2 * c) ?_
      omega
  have e5 : (op == 5) = false := by simpa using h5
  rw [if_neg h5, e5]
  simp only [grapnelref01_Do.j0, Bool.false_eq_true, if_false]
  by_cases h6 : op = 6
  · subst h6
    obtain ⟨r, hr, he⟩ := rAnd k (by omega) a b a0 a1 b0 b1
    rw [if_pos rfl, if_pos rfl, ← he]
    simp only [grapnelref01_Do.j1, beq_self_eq_true, if_true, hr, Option.bind_some, rCutI, enc_cut]
  rw [if_neg h6, if_neg h6]
  by_cases h7 : op = 7
  · subst h7
    obtain ⟨r, hr, he⟩ := rOr k (by omega) a b a0 a1 b0 b1
    rw [if_pos rfl, if_pos rfl, ← he]
    simp only [grapnelref01_Do.j1, beq_self_eq_true, if_true, hr, Option.bind_some, rCutI, enc_cut]
  rw [if_neg h7, if_neg h7]
  by_cases h8 : op = 8
  · subst h8
    obtain ⟨r, hr, he⟩ := rXor k (by omega) a b a0 a1 b0 b1
    rw [if_pos rfl, ← he]
    simp only [grapnelref01_Do.j1, beq_self_eq_true, if_true, hr, Option.bind_some, rCutI, enc_cut]
  have e8 : (op == 8) = false := by simpa using h8
  rw [if_neg h8, e8]
  simp only [grapnelref01_Do.j1, Bool.false_eq_true, if_false]
  by_cases h9 : op = 9
  · rw [if_pos h9, if_pos h9, rTwice k (by omega) a b a0 a1, Option.bind_some]
    split
    · rw [rInt 0 (by omega) (by omega)]; rfl
    · rw [rCutI]; rfl
  rw [if_neg h9, if_neg h9]
  by_cases h10 : op = 10
  · rw [if_pos h10, if_pos h10, rHalf k (by omega) a b a0 a1, Option.bind_some]
    have hbd : ∀ d : Nat, -4611686018427387904 ≤ a / 2 ^ d ∧ a / 2 ^ d ≤ 4611686018427387904 := by
      intro d
      have hp : (1 : Int) ≤ 2 ^ d := by have := Nat.two_pow_pos d; have h2 : ((2 ^ d : Nat) : Int) = 2 ^ d := by { rw [Int.natCast_pow]; rfl }; rw [← h2]; omega
      refine ⟨?_, ?_⟩
      · rw [Int.le_ediv_iff_mul_le (by omega)]
        have : -4611686018427387904 * (2 : Int) ^ d ≤ -4611686018427387904 * 1 := by
          rw [Int.neg_mul, Int.neg_mul]; exact Int.neg_le_neg (Int.mul_le_mul_of_nonneg_left hp (by omega))
        omega
      · have : a / 2 ^ d < 4611686018427387904 := by
          rw [Int.ediv_lt_iff_lt_mul (by omega)]
          have : 4611686018427387904 * 1 ≤ 4611686018427387904 * (2 : Int) ^ d := Int.mul_le_mul_of_nonneg_left hp (by omega)
          omega
        omega
    split
    · rw [rInt _ (by omega) (by omega)]; rfl
    · have := hbd b.toNat
      rw [rInt _ (by omega) (by omega)]; rfl
  rw [if_neg h10, if_neg h10]
  by_cases h11 : op = 11
  · rw [if_pos h11, if_pos h11]
    by_cases hlt : a < b
    · rw [if_pos hlt, if_pos hlt, rInt 1 (by omega) (by omega)]; rfl
    · rw [if_neg hlt, if_neg hlt, rInt 0 (by omega) (by omega)]; rfl
  · rw [if_neg h11, if_neg h11]
theorem doN_413 : doN 4 (num 3) (num 1) = (0, 2) := by
  have h : num 1 = 0 := by unfold num wrap64; omega
  rw [h]; rfl
theorem WordDoes : grapnellaw01_WordDoes.Pure := by
  intro op v w _ hv hw
  obtain ⟨v0, v1⟩ := wf_u64 hv
  obtain ⟨w0, w1⟩ := wf_u64 hw
  refine ⟨200, ?_⟩
  unfold grapnellaw01_WordDoes.f
  rw [wDo 197, wDo 197, rDo 200 (by omega) op v w v0 v1 w0 w1, doN_413]
  simp only [Option.bind_some, if_true]
  rfl

end Go.Proofs.Ytblianhdcnpgjaa.Pure
