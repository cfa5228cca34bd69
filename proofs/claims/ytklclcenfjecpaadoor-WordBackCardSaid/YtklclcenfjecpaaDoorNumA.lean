import Derived.IntWalk
import Derived.WalkKit
namespace Go.Proofs.YtklclcenfjecpaaDoor.Num
open Go.RowKit

theorem u64w (n : Int) : IntKind.u64.wrap n = n % 18446744073709551616 := IntKind.wrap_u64 n
theorem i64w (n : Int) : IntKind.i64.wrap n = wrap64 n := IntWalk.i64_left n

theorem ofNat_u64 (m : Nat) : BitVec.ofInt IntKind.u64.bits (m : Int) = BitVec.ofNat 64 m := by
  show BitVec.ofInt 64 (m : Int) = _
  exact BitVec.ofInt_natCast 64 m

theorem or_one (m : Nat) (h : 2 * m < 18446744073709551616) : Go.bits .or .u64 ((2 * m : Nat) : Int) 1 = 2 * m + 1 := by
  unfold Go.bits
  have e1 : BitVec.ofInt IntKind.u64.bits ((2 * m : Nat) : Int) = BitVec.ofNat 64 (2 * m) := ofNat_u64 _
  have e2 : BitVec.ofInt IntKind.u64.bits 1 = BitVec.ofNat 64 1 := ofNat_u64 1
  simp only [e1, e2]
  have : (BitVec.ofNat 64 (2 * m) ||| BitVec.ofNat 64 1).toNat = 2 * m + 1 := by
    rw [BitVec.toNat_or, BitVec.toNat_ofNat, BitVec.toNat_ofNat, Nat.mod_eq_of_lt (by omega), Nat.mod_eq_of_lt (by omega)]
    have := Nat.two_pow_add_eq_or_of_lt (i := 1) (b := 1) (by omega) m
    rw [show 2 ^ 1 * m = 2 * m from by omega] at this
    exact this.symm
  rw [u64w]
  show ((BitVec.ofNat 64 (2 * m) ||| BitVec.ofNat 64 1).toNat : Int) % 18446744073709551616 = 2 * m + 1
  rw [this]; omega

theorem and_one (a : Int) (h0 : 0 ≤ a) (h : a < 18446744073709551616) : Go.bits .and .u64 a 1 = a % 2 := by
  obtain ⟨m, rfl⟩ : ∃ m : Nat, a = m := ⟨a.toNat, by omega⟩
  unfold Go.bits
  have e1 : BitVec.ofInt IntKind.u64.bits (m : Int) = BitVec.ofNat 64 m := ofNat_u64 _
  have e2 : BitVec.ofInt IntKind.u64.bits 1 = BitVec.ofNat 64 1 := ofNat_u64 1
  simp only [e1, e2]
  have : (BitVec.ofNat 64 m &&& BitVec.ofNat 64 1).toNat = m % 2 := by
    rw [BitVec.toNat_and, BitVec.toNat_ofNat, BitVec.toNat_ofNat, Nat.mod_eq_of_lt (by omega), Nat.mod_eq_of_lt (by omega)]
    exact Nat.and_one_is_mod m
  rw [u64w]
  show ((BitVec.ofNat 64 m &&& BitVec.ofNat 64 1).toNat : Int) % 18446744073709551616 = m % 2
  rw [this]; omega

/-- The word of a number: what Int tells. -/
def enc (n : Int) : Int := (2 * n + 1) % 18446744073709551616
/-- The number cut to 63 bits. -/
def cut (n : Int) : Int := (n + 4611686018427387904) % 9223372036854775808 - 4611686018427387904
/-- A word's number. -/
def num (w : Int) : Int := wrap64 w / 2

theorem word_enc (a : Int) : Go.bits .or .u64 (IntKind.u64.wrap (IntKind.u64.wrap a * 2)) 1 = enc a := by
  rw [u64w, u64w]
  obtain ⟨m, hm⟩ : ∃ m : Nat, a % 9223372036854775808 = m := ⟨(a % 9223372036854775808).toNat, by omega⟩
  have : a % 18446744073709551616 * 2 % 18446744073709551616 = ((2 * m : Nat) : Int) := by omega
  rw [this, or_one m (by omega)]; unfold enc; omega
theorem num_enc (n : Int) : num (enc n) = cut n := by unfold num enc cut wrap64; omega
theorem enc_cut (n : Int) : enc (cut n) = enc n := by unfold enc cut; omega
theorem enc_bd (n : Int) : 0 ≤ enc n ∧ enc n < 18446744073709551616 := by unfold enc; omega
theorem enc_odd (n : Int) : enc n % 2 = 1 := by unfold enc; omega
theorem enc_inj {a b : Int} : enc a = enc b ↔ cut a = cut b := by unfold enc cut; omega
theorem cut_bd (n : Int) : -4611686018427387904 ≤ cut n ∧ cut n < 4611686018427387904 := by unfold cut; omega
theorem cut_in {n : Int} (h : -4611686018427387904 ≤ n ∧ n < 4611686018427387904) : cut n = n := by unfold cut; omega
theorem num_bd (n : Int) : -4611686018427387904 ≤ num n ∧ num n < 4611686018427387904 := by unfold num wrap64; omega
theorem enc_wrap (n : Int) : enc (wrap64 n) = enc n := by unfold enc wrap64; omega
theorem cut_wrap (n : Int) : cut (wrap64 n) = cut n := by unfold cut wrap64; omega
/-- The references' Num. -/
theorem ref_num (w : Int) (h0 : 0 ≤ w) (h : w ≤ 18446744073709551615) :
    (if wrap64 (IntKind.u64.wrap (Int.tdiv w 2)) > 4611686018427387903 then (some (wrap64 (wrap64 (wrap64 (wrap64 (IntKind.u64.wrap (Int.tdiv w 2)) - 4611686018427387903) - 4611686018427387903) - 2))) else some (wrap64 (IntKind.u64.wrap (Int.tdiv w 2)))) = some (num w) := by
  rw [Int.tdiv_eq_ediv_of_nonneg h0, IntWalk.u64_in _ (by omega)]
  unfold num wrap64
  split
  · congr 1; omega
  · congr 1; omega
/-- The references' cut. -/
theorem ref_cut (n : Int) (h0 : -9223372036854775808 ≤ n) (h : n ≤ 9223372036854775807) :
    (if n > 4611686018427387903 then (some (wrap64 ((wrap64 ((wrap64 (n - 4611686018427387903)) - 4611686018427387903)) - 2))) else (if n < (-4611686018427387904) then (some (wrap64 ((wrap64 ((wrap64 (n + 4611686018427387903)) + 4611686018427387903)) + 2))) else (some n))) = some (cut n) := by
  unfold cut wrap64
  split
  · congr 1; omega
  · split <;> congr 1 <;> omega
/-- The references' Int, behind the cut. -/
theorem ref_enc (t : Int) :
    (if t < 0 then (some (IntKind.u64.wrap ((IntKind.u64.wrap (-(IntKind.u64.wrap ((IntKind.u64.wrap (wrap64 (-t))) * 2)))) + 1))) else (some (IntKind.u64.wrap ((IntKind.u64.wrap ((IntKind.u64.wrap (t)) * 2)) + 1)))) = some (enc t) := by
  simp only [u64w]
  unfold enc wrap64
  split <;> congr 1 <;> omega
theorem wf_i64 {n : Int} (h : (Lit.int .i64 n).wf = true) : -9223372036854775808 ≤ n ∧ n ≤ 9223372036854775807 := by
  simpa [Lit.wf, IntKind.min, IntKind.max, IntKind.signed, IntKind.bits] using h
theorem wf_u64 {n : Int} (h : (Lit.int .u64 n).wf = true) : 0 ≤ n ∧ n ≤ 18446744073709551615 := by
  simpa [Lit.wf, IntKind.min, IntKind.max, IntKind.signed, IntKind.bits] using h
theorem wf_u8 {n : Int} (h : (Lit.int .u8 n).wf = true) : 0 ≤ n ∧ n ≤ 255 := by
  simpa [Lit.wf, IntKind.min, IntKind.max, IntKind.signed, IntKind.bits] using h
theorem wf_u32 {n : Int} (h : (Lit.int .u32 n).wf = true) : 0 ≤ n ∧ n ≤ 4294967295 := by
  simpa [Lit.wf, IntKind.min, IntKind.max, IntKind.signed, IntKind.bits] using h
theorem ofNat_i64 (m : Nat) : BitVec.ofInt IntKind.i64.bits (m : Int) = BitVec.ofNat 64 m := ofNat_u64 m
theorem or_head (m b : Nat) (hb : b < 256) (hm : m ≤ 2147483647) : Go.bits .or .i64 ((256 * m : Nat) : Int) (b : Int) = 256 * m + b := by
  unfold Go.bits
  simp only [ofNat_i64]
  have : (BitVec.ofNat 64 (256 * m) ||| BitVec.ofNat 64 b).toNat = 256 * m + b := by
    rw [BitVec.toNat_or, BitVec.toNat_ofNat, BitVec.toNat_ofNat, Nat.mod_eq_of_lt (by omega), Nat.mod_eq_of_lt (by omega)]
    have := Nat.two_pow_add_eq_or_of_lt (i := 8) (b := b) (by omega) m
    rw [show 2 ^ 8 * m = 256 * m from by omega] at this
    exact this.symm
  show IntKind.i64.wrap ((BitVec.ofNat 64 (256 * m) ||| BitVec.ofNat 64 b).toNat : Int) = 256 * m + b
  rw [this, IntWalk.i64_in _ (by omega)]; omega
theorem and_255 (m : Nat) (hm : m ≤ 4611686018427387903) : Go.bits .and .i64 (m : Int) 255 = (m : Int) % 256 := by
  unfold Go.bits
  have e2 : BitVec.ofInt IntKind.i64.bits 255 = BitVec.ofNat 64 255 := ofNat_u64 255
  simp only [ofNat_i64, e2]
  have : (BitVec.ofNat 64 m &&& BitVec.ofNat 64 255).toNat = m % 256 := by
    rw [BitVec.toNat_and, BitVec.toNat_ofNat, BitVec.toNat_ofNat, Nat.mod_eq_of_lt (by omega), Nat.mod_eq_of_lt (by omega)]
    exact Nat.and_two_pow_sub_one_eq_mod m 8
  show IntKind.i64.wrap ((BitVec.ofNat 64 m &&& BitVec.ofNat 64 255).toNat : Int) = (m : Int) % 256
  rw [this, IntWalk.i64_in _ (by omega)]; omega
/-- What an operation tells of two numbers: a word, and what is wrong. -/
def doN (op a b : Int) : Int × Int :=
  if op = 1 then (enc (a + b), 0) else if op = 2 then (enc (a - b), 0) else if op = 3 then (enc (a * b), 0)
  else if op = 4 then (if b = 0 then (0, 2) else (enc (Int.tdiv a b), 0))
  else if op = 5 then (if b = 0 then (0, 2) else (enc (Int.tmod a b), 0))
  else if op = 6 then (enc (Go.bits .and .i64 a b), 0) else if op = 7 then (enc (Go.bits .or .i64 a b), 0) else if op = 8 then (enc (Go.bits .xor .i64 a b), 0)
  else if op = 9 then (enc (if b < 0 ∨ b > 62 then 0 else a * 2 ^ b.toNat), 0)
  else if op = 10 then (enc (if b < 0 ∨ b > 62 then a / 4611686018427387904 else a / 2 ^ b.toNat), 0)
  else if op = 11 then (enc (if a < b then 1 else 0), 0) else (0, 1)
/-- The cut of what is alike but for a multiple of 2^63. -/
theorem cut_of {a b c : Int} (h : a = b + 9223372036854775808 * c) : cut a = cut b := by unfold cut; omega
theorem enc_of {a b c : Int} (h : a = b + 9223372036854775808 * c) : enc a = enc b := by unfold enc; omega
theorem cut_form (n : Int) : ∃ c, cut n = n + 9223372036854775808 * c := ⟨-((n + 4611686018427387904) / 9223372036854775808), by unfold cut; omega⟩
theorem wrap_form (n : Int) : ∃ c, wrap64 n = n + 18446744073709551616 * c := ⟨-((n + 9223372036854775808) / 18446744073709551616), by unfold wrap64; omega⟩
theorem enc_eq_cut {a b : Int} (h : cut a = cut b) : enc a = enc b := enc_inj.mpr h
theorem bit2 (n : Nat) : n = 2 * (n / 2) + n % 2 := by omega
theorem and_half (a b : Nat) : (a &&& b) / 2 = a / 2 &&& b / 2 := Nat.and_div_two
theorem or_half (a b : Nat) : (a ||| b) / 2 = a / 2 ||| b / 2 := Nat.or_div_two
theorem xor_half (a b : Nat) : (a ^^^ b) / 2 = a / 2 ^^^ b / 2 := Nat.xor_div_two
theorem and_par (a b : Nat) : (a &&& b) % 2 = a % 2 &&& b % 2 := Nat.and_mod_two_pow (n := 1)
theorem or_par (a b : Nat) : (a ||| b) % 2 = a % 2 ||| b % 2 := Nat.or_mod_two_pow (n := 1)
theorem xor_par (a b : Nat) : (a ^^^ b) % 2 = a % 2 ^^^ b % 2 := Nat.xor_mod_two_pow (n := 1)
theorem par_cases (a : Nat) : a % 2 = 0 ∨ a % 2 = 1 := by omega
theorem and_plus_or (a b : Nat) : (a &&& b) + (a ||| b) = a + b := by
  induction a using Nat.strongRecOn generalizing b with
  | _ a ih =>
    by_cases h : a = 0
    · subst h; simp
    · have e := ih (a / 2) (by omega) (b / 2)
      rw [bit2 (a &&& b), bit2 (a ||| b), and_half, or_half, and_par, or_par]
      rcases par_cases a with ha | ha <;> rcases par_cases b with hb | hb <;> simp only [ha, hb] <;> (simp; omega)
theorem and_plus_xor (a b : Nat) : (a &&& b) + (a ^^^ b) = a ||| b := by
  induction a using Nat.strongRecOn generalizing b with
  | _ a ih =>
    by_cases h : a = 0
    · subst h; simp
    · have e := ih (a / 2) (by omega) (b / 2)
      rw [bit2 (a &&& b), bit2 (a ||| b), bit2 (a ^^^ b), and_half, or_half, xor_half, and_par, or_par, xor_par]
      rcases par_cases a with ha | ha <;> rcases par_cases b with hb | hb <;> simp only [ha, hb] <;> (simp; omega)
/-- A number's 64 bits. -/
def u (x : Int) : Nat := (x % 18446744073709551616).toNat
theorem u_ofInt (x : Int) : (BitVec.ofInt IntKind.i64.bits x).toNat = u x := BitVec.toNat_ofInt (n := 64) x
theorem bits_and (x y : Int) : Go.bits .and .i64 x y = wrap64 ((u x &&& u y : Nat) : Int) := by
  show IntKind.i64.wrap ((BitVec.ofInt IntKind.i64.bits x &&& BitVec.ofInt IntKind.i64.bits y).toNat : Int) = _
  rw [i64w, BitVec.toNat_and, u_ofInt, u_ofInt]
theorem bits_or (x y : Int) : Go.bits .or .i64 x y = wrap64 ((u x ||| u y : Nat) : Int) := by
  show IntKind.i64.wrap ((BitVec.ofInt IntKind.i64.bits x ||| BitVec.ofInt IntKind.i64.bits y).toNat : Int) = _
  rw [i64w, BitVec.toNat_or, u_ofInt, u_ofInt]
theorem bits_xor (x y : Int) : Go.bits .xor .i64 x y = wrap64 ((u x ^^^ u y : Nat) : Int) := by
  show IntKind.i64.wrap ((BitVec.ofInt IntKind.i64.bits x ^^^ BitVec.ofInt IntKind.i64.bits y).toNat : Int) = _
  rw [i64w, BitVec.toNat_xor, u_ofInt, u_ofInt]
theorem enc_sum {a b c d : Int} (h : enc (a + b) = enc c) (ha : cut a = cut d) : enc (d + b) = enc c := by unfold enc cut at *; omega
/-- Quotient and rest of numbers of 63 bits. -/
theorem quo_rest (x y : Int) (hx : -4611686018427387904 ≤ x ∧ x < 4611686018427387904) (hy : -4611686018427387904 ≤ y ∧ y < 4611686018427387904) (h0 : y ≠ 0) :
    x = Int.tdiv x y * y + Int.tmod x y ∧ (-4611686018427387904 ≤ Int.tdiv x y ∧ Int.tdiv x y ≤ 4611686018427387904) ∧ (Int.tmod x y).natAbs < y.natAbs := by
  refine ⟨?_, ?_, ?_⟩
  · have := Int.tdiv_mul_add_tmod x y; omega
  · have := Int.natAbs_tdiv_le_natAbs x y; omega
  · rw [Int.natAbs_tmod]; exact Nat.mod_lt _ (by omega)
theorem enc_cut2 {n m o : Int} (h : n + m = o) : enc (cut n + cut m) = enc o := by unfold enc cut; omega
theorem enc_two {n o x y X Y : Int} (h : n + o = X + Y) (hx : X = x % 18446744073709551616) (hy : Y = y % 18446744073709551616) : enc (cut n + cut o) = enc (x + y) := by unfold enc cut; omega
theorem u_int (x : Int) : (u x : Int) = x % 18446744073709551616 := by unfold u; omega
theorem enc_le (n : Int) : enc n ≤ 18446744073709551615 := by have := enc_bd n; omega
theorem enc_ge (n : Int) : 0 ≤ enc n := (enc_bd n).1
theorem wrap_0 : wrap64 0 = 0 := by unfold wrap64; omega
theorem doN_1 (p q : Int) : doN 1 p q = (enc (p + q), 0) := rfl
theorem doN_6 (p q : Int) : doN 6 p q = (enc (Go.bits .and .i64 p q), 0) := rfl
theorem doN_7 (p q : Int) : doN 7 p q = (enc (Go.bits .or .i64 p q), 0) := rfl
theorem doN_8 (p q : Int) : doN 8 p q = (enc (Go.bits .xor .i64 p q), 0) := rfl
theorem bits_all (x y : Int) : ∃ A O X : Int, doN 6 x y = (enc A, 0) ∧ doN 7 x y = (enc O, 0) ∧ doN 8 x y = (enc X, 0) ∧ enc (cut A + cut X) = enc O ∧ enc (cut A + cut O) = enc (x + y) := by
  have h1 := and_plus_or (u x) (u y)
  have h2 := and_plus_xor (u x) (u y)
  rw [doN_6, doN_7, doN_8, bits_and, bits_or, bits_xor, enc_wrap, enc_wrap, enc_wrap]
  refine ⟨_, _, _, rfl, rfl, rfl, ?_⟩
  generalize u x &&& u y = A at *
  generalize u x ||| u y = B at *
  generalize u x ^^^ u y = C at *
  refine ⟨enc_cut2 ?_, enc_two (X := u x) (Y := u y) ?_ (u_int x) (u_int y)⟩
  · rw [← h2, Int.natCast_add]
  · rw [← Int.natCast_add, h1, Int.natCast_add]
end Go.Proofs.YtklclcenfjecpaaDoor.Num
