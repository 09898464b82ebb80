/-
  Colours and values, in plain numbers: what a colour's value is, what a value's colour is, and that parts that share no bit are added.
-/
import Derived.Test.YtodlpofpeoiedaaL
namespace Go.Proofs.Ytodlpofpeoiedaa
open Go.RowKit

theorem pow_cases {k : Nat} (h1 : 1 ≤ k) (h2 : k ≤ 16) : k = 1 ∨ k = 2 ∨ k = 3 ∨ k = 4 ∨ k = 5 ∨ k = 6 ∨ k = 7 ∨ k = 8 ∨ k = 9 ∨ k = 10 ∨ k = 11 ∨ k = 12 ∨ k = 13 ∨ k = 14 ∨ k = 15 ∨ k = 16 := by omega

/-- The lowest k bits of any number. -/
theorem and_pow (n : Int) {k : Nat} (h1 : 1 ≤ k) (h2 : k ≤ 16) : bits .and .i64 n (2 ^ k - 1) = n % 2 ^ k := by
  have hm : (BitVec.ofInt 64 (2 ^ k - 1)).toNat = 2 ^ k - 1 := by
    rcases pow_cases h1 h2 with h | h | h | h | h | h | h | h | h | h | h | h | h | h | h | h <;> subst h <;> decide
  have key : (BitVec.ofInt 64 n &&& BitVec.ofInt 64 (2 ^ k - 1)).toNat = (n % ((2 ^ 64 : Nat) : Int)).toNat % 2 ^ k := by
    rw [BitVec.toNat_and, BitVec.toNat_ofInt, hm, Nat.and_two_pow_sub_one_eq_mod]
  show IntKind.i64.wrap ((BitVec.ofInt 64 n &&& BitVec.ofInt 64 (2 ^ k - 1)).toNat : Nat) = n % 2 ^ k
  rw [key, IntKind.wrap_i64]
  clear key hm
  rcases pow_cases h1 h2 with h | h | h | h | h | h | h | h | h | h | h | h | h | h | h | h <;> subst h <;> omega

theorem and_255 (n : Int) : bits .and .i64 n 255 = n % 256 := and_pow n (k := 8) (by decide) (by decide)

/-- A part's value among its bits: 'value & most'. -/
theorem and_width (n : Int) {m : Int} (h : widthOf m ≠ 0) : bits .and .i64 n m = n % (m + 1) := by
  rcases widthOf_spec m with ⟨h0, _⟩ | ⟨a, b, he⟩
  · exact absurd h0 h
  · have hm : m = 2 ^ widthOf m - 1 := by omega
    have := and_pow n a b
    rw [← hm] at this
    rw [this, he]

/-- A part of a colour, as a part of a value. -/
def dn (x m : Int) : Int := (x * m + 127) / 255
/-- A part of a value, as a part of a colour. -/
def up (x m : Int) : Int := (x * 255 + m / 2) / m

theorem mul_bd {x m a b : Int} (h0 : 0 ≤ x) (h1 : x ≤ a) (h2 : 0 ≤ m) (h3 : m ≤ b) : 0 ≤ x * m ∧ x * m ≤ a * b :=
  ⟨Int.mul_nonneg h0 h2, Int.mul_le_mul h1 h3 h2 (by omega)⟩

theorem dn_bd {x m : Int} (h0 : 0 ≤ x) (h1 : x ≤ 255) (h2 : 0 ≤ m) : 0 ≤ dn x m ∧ dn x m ≤ m := by
  have h3 : x * m ≤ 255 * m := Int.mul_le_mul_of_nonneg_right h1 h2
  have h4 : 0 ≤ x * m := Int.mul_nonneg h0 h2
  unfold dn
  omega

theorem up_bd {x m : Int} (h0 : 0 ≤ x) (h1 : x ≤ m) (h2 : 1 ≤ m) : 0 ≤ up x m ∧ up x m ≤ 255 := by
  unfold up
  have hn : 0 ≤ x * 255 + m / 2 := by omega
  refine ⟨Int.ediv_nonneg hn (by omega), ?_⟩
  have : (x * 255 + m / 2) / m < 256 := Int.ediv_lt_of_lt_mul (by omega) (by omega)
  omega

/-- Of a part's bits: what is at most the part's greatest value lies within the part's mask. -/
theorem in_mask {m s : Int} (hw : widthOf m ≠ 0) (h2 : 0 ≤ s) (h3 : s ≤ 32) {d : Int} (h0 : 0 ≤ d) (h1 : d ≤ m) :
    ∃ x y : Nat, d * 2 ^ s.toNat = x ∧ mk m s = y ∧ x < 9223372036854775808 ∧ y < 9223372036854775808 ∧ x &&& y = x := by
  rcases widthOf_spec m with ⟨hz, _⟩ | ⟨a, b, he⟩
  · exact absurd hz hw
  generalize widthOf m = k at *
  obtain ⟨n, rfl⟩ := Int.eq_ofNat_of_zero_le h0
  obtain ⟨t, rfl⟩ := Int.eq_ofNat_of_zero_le h2
  have hp := pow_bd a b
  have hk : (2 ^ k : Nat) ≤ 65536 := by
    have e : ((2 ^ k : Nat) : Int) = (2 : Int) ^ k := Int.natCast_pow 2 k
    omega
  have hm : m = ((2 ^ k - 1 : Nat) : Int) := by
    have e : ((2 ^ k : Nat) : Int) = (2 : Int) ^ k := Int.natCast_pow 2 k
    have : 0 < 2 ^ k := Nat.two_pow_pos k
    omega
  have hn : n < 2 ^ k := by omega
  have ht : (2 ^ t : Nat) ≤ 2 ^ 32 := Nat.pow_le_pow_right (by decide) (by omega)
  have h1 : n * 2 ^ t ≤ 65536 * 4294967296 := Nat.mul_le_mul (by omega) ht
  have h2 : (2 ^ k - 1) * 2 ^ t ≤ 65536 * 4294967296 := Nat.mul_le_mul (by omega) ht
  refine ⟨n * 2 ^ t, (2 ^ k - 1) * 2 ^ t, ?_, ?_, by omega, by omega, ?_⟩
  · rw [Int.toNat_natCast, Int.natCast_mul, Int.natCast_pow]; rfl
  · unfold mk
    rw [hm, Int.toNat_natCast, Int.natCast_mul, Int.natCast_pow]; rfl
  · rw [← Nat.shiftLeft_eq, ← Nat.shiftLeft_eq, ← Nat.shiftLeft_and_distrib, Nat.and_two_pow_sub_one_eq_mod, Nat.mod_eq_of_lt hn]

theorem or_add_nat (x y : Nat) (h : x &&& y = 0) : x ||| y = x + y := by
  have h1 : BitVec.ofNat (x + y + 1) x &&& BitVec.ofNat (x + y + 1) y = 0#(x + y + 1) := by
    apply BitVec.eq_of_toNat_eq
    rw [BitVec.toNat_and, BitVec.toNat_ofNat, BitVec.toNat_ofNat, Nat.mod_eq_of_lt, Nat.mod_eq_of_lt, h]
    · simp
    · exact Nat.lt_of_lt_of_le Nat.lt_two_pow_self (Nat.pow_le_pow_right (by decide) (by omega))
    · exact Nat.lt_of_lt_of_le Nat.lt_two_pow_self (Nat.pow_le_pow_right (by decide) (by omega))
  have h2 := congrArg BitVec.toNat (BitVec.add_eq_or_of_and_eq_zero _ _ h1)
  have hs : x + y < 2 ^ (x + y + 1) := Nat.lt_of_lt_of_le Nat.lt_two_pow_self (Nat.pow_le_pow_right (by decide) (by omega))
  rw [BitVec.toNat_add, BitVec.toNat_or, BitVec.toNat_ofNat, BitVec.toNat_ofNat, Nat.mod_eq_of_lt (show x < 2 ^ (x + y + 1) by omega), Nat.mod_eq_of_lt (show y < 2 ^ (x + y + 1) by omega), Nat.mod_eq_of_lt hs] at h2
  exact h2.symm

/-- Two parts that share no bit are added. -/
theorem or_parts {a b p q : Nat} (ha : a < 9223372036854775808) (hb : b < 9223372036854775808) (h1 : a &&& p = a) (h2 : b &&& q = b) (h : p &&& q = 0) : bits .or .i64 (a : Int) (b : Int) = (a : Int) + b := by
  have h0 : a &&& b = 0 := by
    rw [← h1, ← h2]
    have : (a &&& p) &&& (b &&& q) = (a &&& b) &&& (p &&& q) := by
      rw [Nat.and_assoc, Nat.and_assoc, ← Nat.and_assoc p b q, Nat.and_comm p b, Nat.and_assoc b p q]
    rw [this, h, Nat.and_zero]
  rw [or_i64_nat a b ha hb, or_add_nat a b h0]
  rfl

end Go.Proofs.Ytodlpofpeoiedaa
