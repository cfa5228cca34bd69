import Derived.IntWalk
import Derived.WalkKit
namespace Go.Proofs.Ytblianhdcnpgjaa.Num
open Go.RowKit

theorem u64w (n : Int) : IntKind.u64.wrap n = n % 18446744073709551616 := IntKind.wrap_u64 n
theorem i64w (n : Int) : IntKind.i64.wrap n = wrap64 n := IntWalk.i64_left n

theorem ofNat_u64 (m : Nat) : BitVec.ofInt IntKind.u64.bits (m : Int) = BitVec.ofNat 64 m := by
  show BitVec.ofInt 64 (m : Int) = _
  exact BitVec.ofInt_natCast 64 m

theorem or_one (m : Nat) (h : 2 * m < 18446744073709551616) : Go.bits .or .u64 ((2 * m : Nat) : Int) 1 = 2 * m + 1 := by
  unfold Go.bits
  have e1 : BitVec.ofInt IntKind.u64.bits ((2 * m : Nat) : Int) = BitVec.ofNat 64 (2 * m) := ofNat_u64 _
  have e2 : BitVec.ofInt IntKind.u64.bits 1 = BitVec.ofNat 64 1 := ofNat_u64 1
  simp only [e1, e2]
  have : (BitVec.ofNat 64 (2 * m) ||| BitVec.ofNat 64 1).toNat = 2 * m + 1 := by
    rw [BitVec.toNat_or, BitVec.toNat_ofNat, BitVec.toNat_ofNat, Nat.mod_eq_of_lt (by omega), Nat.mod_eq_of_lt (by omega)]
    have := Nat.two_pow_add_eq_or_of_lt (i := 1) (b := 1) (by omega) m
    rw [show 2 ^ 1 * m = 2 * m from by omega] at this
    exact this.symm
  rw [u64w]
  show ((BitVec.ofNat 64 (2 * m) ||| BitVec.ofNat 64 1).toNat : Int) % 18446744073709551616 = 2 * m + 1
  rw [this]; omega

theorem and_one (a : Int) (h0 : 0 ≤ a) (h : a < 18446744073709551616) : Go.bits .and .u64 a 1 = a % 2 := by
  obtain ⟨m, rfl⟩ : ∃ m : Nat, a = m := ⟨a.toNat, by omega⟩
  unfold Go.bits
  have e1 : BitVec.ofInt IntKind.u64.bits (m : Int) = BitVec.ofNat 64 m := ofNat_u64 _
  have e2 : BitVec.ofInt IntKind.u64.bits 1 = BitVec.ofNat 64 1 := ofNat_u64 1
  simp only [e1, e2]
  have : (BitVec.ofNat 64 m &&& BitVec.ofNat 64 1).toNat = m % 2 := by
    rw [BitVec.toNat_and, BitVec.toNat_ofNat, BitVec.toNat_ofNat, Nat.mod_eq_of_lt (by omega), Nat.mod_eq_of_lt (by omega)]
    exact Nat.and_one_is_mod m
  rw [u64w]
  show ((BitVec.ofNat 64 m &&& BitVec.ofNat 64 1).toNat : Int) % 18446744073709551616 = m % 2
  rw [this]; omega

/-- The word of a number: what Int tells. -/
def enc (n : Int) : Int := (2 * n + 1) % 18446744073709551616
/-- The number cut to 63 bits. -/
def cut (n : Int) : Int := (n + 4611686018427387904) % 9223372036854775808 - 4611686018427387904
/-- A word's number. -/
def num (w : Int) : Int := wrap64 w / 2

theorem word_enc (a : Int) : Go.bits .or .u64 (IntKind.u64.wrap (IntKind.u64.wrap a * 2)) 1 = enc a := by
  rw [u64w, u64w]
  obtain ⟨m, hm⟩ : ∃ m : Nat, a % 9223372036854775808 = m := ⟨(a % 9223372036854775808).toNat, by omega⟩
  have : a % 18446744073709551616 * 2 % 18446744073709551616 = ((2 * m : Nat) : Int) := by omega
  rw [this, or_one m (by omega)]; unfold enc; omega
theorem num_enc (n : Int) : num (enc n) = cut n := by unfold num enc cut wrap64; omega
theorem enc_cut (n : Int) : enc (cut n) = enc n := by unfold enc cut; omega
theorem enc_bd (n : Int) : 0 ≤ enc n ∧ enc n < 18446744073709551616 := by unfold enc; omega
theorem enc_odd (n : Int) : enc n % 2 = 1 := by unfold enc; omega
theorem enc_inj {a b : Int} : enc a = enc b ↔ cut a = cut b := by unfold enc cut; omega
theorem cut_bd (n : Int) : -4611686018427387904 ≤ cut n ∧ cut n < 4611686018427387904 := by unfold cut; omega
theorem cut_in {n : Int} (h : -4611686018427387904 ≤ n ∧ n < 4611686018427387904) : cut n = n := by unfold cut; omega
theorem num_bd (n : Int) : -4611686018427387904 ≤ num n ∧ num n < 4611686018427387904 := by unfold num wrap64; omega
theorem enc_wrap (n : Int) : enc (wrap64 n) = enc n := by unfold enc wrap64; omega
theorem cut_wrap (n : Int) : cut (wrap64 n) = cut n := by unfold cut wrap64; omega
/-- The references' Num. -/
theorem ref_num (w : Int) (h0 : 0 ≤ w) (h : w ≤ 18446744073709551615) :
    (if wrap64 (IntKind.u64.wrap (Int.tdiv w 2)) > 4611686018427387903 then (some (wrap64 (wrap64 (wrap64 (wrap64 (IntKind.u64.wrap (Int.tdiv w 2)) - 4611686018427387903) - 4611686018427387903) - 2))) else some (wrap64 (IntKind.u64.wrap (Int.tdiv w 2)))) = some (num w) := by
  rw [Int.tdiv_eq_ediv_of_nonneg h0, IntWalk.u64_in _ (by omega)]
  unfold num wrap64
  split
  · congr 1; omega
  · congr 1; omega
/-- The references' cut. -/
theorem ref_cut (n : Int) (h0 : -9223372036854775808 ≤ n) (h : n ≤ 9223372036854775807) :
    (if n > 4611686018427387903 then (some (wrap64 ((wrap64 ((wrap64 (n - 4611686018427387903)) - 4611686018427387903)) - 2))) else (if n < (-4611686018427387904) then (some (wrap64 ((wrap64 ((wrap64 (n + 4611686018427387903)) + 4611686018427387903)) + 2))) else (some n))) = some (cut n) := by
  unfold cut wrap64
  split
  · congr 1; omega
  · split <;> congr 1 <;> omega
/-- The references' Int, behind the cut. -/
theorem ref_enc (t : Int) :
    (if t < 0 then (some (IntKind.u64.wrap ((IntKind.u64.wrap (-(IntKind.u64.wrap ((IntKind.u64.wrap (wrap64 (-t))) * 2)))) + 1))) else (some (IntKind.u64.wrap ((IntKind.u64.wrap ((IntKind.u64.wrap (t)) * 2)) + 1)))) = some (enc t) := by
  simp only [u64w]
  unfold enc wrap64
  split <;> congr 1 <;> omega
theorem wf_i64 {n : Int} (h : (Lit.int .i64 n).wf = true) : -9223372036854775808 ≤ n ∧ n ≤ 9223372036854775807 := by
  simpa [Lit.wf, IntKind.min, IntKind.max, IntKind.signed, IntKind.bits] using h
theorem wf_u64 {n : Int} (h : (Lit.int .u64 n).wf = true) : 0 ≤ n ∧ n ≤ 18446744073709551615 := by
  simpa [Lit.wf, IntKind.min, IntKind.max, IntKind.signed, IntKind.bits] using h
theorem wf_u8 {n : Int} (h : (Lit.int .u8 n).wf = true) : 0 ≤ n ∧ n ≤ 255 := by
  simpa [Lit.wf, IntKind.min, IntKind.max, IntKind.signed, IntKind.bits] using h
theorem wf_u32 {n : Int} (h : (Lit.int .u32 n).wf = true) : 0 ≤ n ∧ n ≤ 4294967295 := by
  simpa [Lit.wf, IntKind.min, IntKind.max, IntKind.signed, IntKind.bits] using h
theorem ofNat_i64 (m : Nat) : BitVec.ofInt IntKind.i64.bits (m : Int) = BitVec.ofNat 64 m := ofNat_u64 m
theorem or_head (m b : Nat) (hb : b < 256) (hm : m ≤ 2147483647) : Go.bits .or .i64 ((256 * m : Nat) : Int) (b : Int) = 256 * m + b := by
  unfold Go.bits
  simp only [ofNat_i64]
  have : (BitVec.ofNat 64 (256 * m) ||| BitVec.ofNat 64 b).toNat = 256 * m + b := by
    rw [BitVec.toNat_or, BitVec.toNat_ofNat, BitVec.toNat_ofNat, Nat.mod_eq_of_lt (by omega), Nat.mod_eq_of_lt (by omega)]
    have := Nat.two_pow_add_eq_or_of_lt (i := 8) (b := b) (by omega) m
    rw [show 2 ^ 8 * m = 256 * m from by omega] at this
    exact this.symm
  show IntKind.i64.wrap ((BitVec.ofNat 64 (256 * m) ||| BitVec.ofNat 64 b).toNat : Int) = 256 * m + b
  rw [this, IntWalk.i64_in _ (by omega)]; omega
theorem and_255 (m : Nat) (hm : m ≤ 4611686018427387903) : Go.bits .and .i64 (m : Int) 255 = (m : Int) % 256 := by
  unfold Go.bits
  have e2 : BitVec.ofInt IntKind.i64.bits 255 = BitVec.ofNat 64 255 := ofNat_u64 255
  simp only [ofNat_i64, e2]
  have : (BitVec.ofNat 64 m &&& BitVec.ofNat 64 255).toNat = m % 256 := by
    rw [BitVec.toNat_and, BitVec.toNat_ofNat, BitVec.toNat_ofNat, Nat.mod_eq_of_lt (by omega), Nat.mod_eq_of_lt (by omega)]
    exact Nat.and_two_pow_sub_one_eq_mod m 8
  show IntKind.i64.wrap ((BitVec.ofNat 64 m &&& BitVec.ofNat 64 255).toNat : Int) = (m : Int) % 256
  rw [this, IntWalk.i64_in _ (by omega)]; omega
end Go.Proofs.Ytblianhdcnpgjaa.Num
