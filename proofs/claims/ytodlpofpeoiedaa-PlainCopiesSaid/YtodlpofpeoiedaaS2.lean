/-
  Plain words on a pixel format's parts: how many bits a part has, and whether it may be. No program in sight.
-/
import Derived.Test.YtodlpofpeoiedaaD
import Derived.Lib.BitFns
namespace Go.Proofs.Ytodlpofpeoiedaa
open Go.RowKit

/-- How many bits a part has whose greatest value is m: m + 1 is 2 to the k, k from 1 to 16; else 0. -/
def widthOf (m : Int) : Nat := ((List.range 17).find? fun k => decide (1 ≤ k ∧ m + 1 = 2 ^ k)).getD 0

theorem widthOf_spec (m : Int) : (widthOf m = 0 ∧ ∀ k : Nat, 1 ≤ k → k ≤ 16 → m + 1 ≠ 2 ^ k) ∨ (1 ≤ widthOf m ∧ widthOf m ≤ 16 ∧ m + 1 = 2 ^ widthOf m) := by
  unfold widthOf
  cases h : (List.range 17).find? fun k => decide (1 ≤ k ∧ m + 1 = 2 ^ k) with
  | none =>
    left
    refine ⟨rfl, fun k h1 h2 he => ?_⟩
    have := List.find?_eq_none.1 h k (by simp; omega)
    simp only [decide_eq_true_eq] at this
    exact this ⟨h1, he⟩
  | some k =>
    right
    have h1 := List.find?_some h
    have h2 := List.mem_of_find?_eq_some h
    simp only [decide_eq_true_eq] at h1
    simp only [List.mem_range] at h2
    exact ⟨h1.1, by show k ≤ 16; omega, h1.2⟩

theorem pow_inj2 {a b : Nat} (h : (2 : Int) ^ a = 2 ^ b) : a = b := by
  have h' : (2 : Nat) ^ a = 2 ^ b := by
    have e1 : ((2 ^ a : Nat) : Int) = ((2 ^ b : Nat) : Int) := by rw [Int.natCast_pow, Int.natCast_pow]; exact h
    exact Int.ofNat.inj e1
  exact (Nat.pow_right_inj (by decide)).1 h'

theorem widthOf_eq {m : Int} {k : Nat} (h1 : 1 ≤ k) (h2 : k ≤ 16) (h : m + 1 = 2 ^ k) : widthOf m = k := by
  rcases widthOf_spec m with ⟨_, hn⟩ | ⟨_, _, he⟩
  · exact absurd h (hn k h1 h2)
  · exact pow_inj2 (he.symm.trans h)

theorem pow_bd {k : Nat} (h1 : 1 ≤ k) (h2 : k ≤ 16) : (2 : Int) ≤ 2 ^ k ∧ (2 : Int) ^ k ≤ 65536 := by
  have : k = 1 ∨ k = 2 ∨ k = 3 ∨ k = 4 ∨ k = 5 ∨ k = 6 ∨ k = 7 ∨ k = 8 ∨ k = 9 ∨ k = 10 ∨ k = 11 ∨ k = 12 ∨ k = 13 ∨ k = 14 ∨ k = 15 ∨ k = 16 := by omega
  rcases this with h | h | h | h | h | h | h | h | h | h | h | h | h | h | h | h <;> subst h <;> decide

theorem widthOf_out {m : Int} (h : m < 1 ∨ 65535 < m) : widthOf m = 0 := by
  rcases widthOf_spec m with ⟨h0, _⟩ | ⟨a, b, he⟩
  · exact h0
  · have := pow_bd a b
    omega

/-- A number and the next one share no bit: it is a power of two less one. -/
theorem and_next : ∀ m : Nat, m &&& (m + 1) = 0 → ∃ k, m + 1 = 2 ^ k := by
  intro m
  induction m using Nat.strongRecOn with
  | ind m ih =>
    intro h
    by_cases h0 : m = 0
    · exact ⟨0, by omega⟩
    · have hm : m % 2 = 1 := by
        by_cases he : m % 2 = 0
        · exfalso
          have h1 := Nat.and_div_two (a := m) (b := m + 1)
          rw [h] at h1
          have h2 : (m + 1) / 2 = m / 2 := by omega
          rw [h2, Nat.and_self] at h1
          omega
        · omega
      have h1 := Nat.and_div_two (a := m) (b := m + 1)
      rw [h] at h1
      have h2 : (m + 1) / 2 = m / 2 + 1 := by omega
      rw [h2] at h1
      obtain ⟨k, hk⟩ := ih (m / 2) (by omega) (by omega)
      exact ⟨k + 1, by rw [Nat.pow_succ]; omega⟩

theorem bitLen_pow {k : Nat} (h1 : 1 ≤ k) (h2 : k ≤ 16) : Lib.bitLen (2 ^ k - 1) = k := by
  have : k = 1 ∨ k = 2 ∨ k = 3 ∨ k = 4 ∨ k = 5 ∨ k = 6 ∨ k = 7 ∨ k = 8 ∨ k = 9 ∨ k = 10 ∨ k = 11 ∨ k = 12 ∨ k = 13 ∨ k = 14 ∨ k = 15 ∨ k = 16 := by omega
  rcases this with h | h | h | h | h | h | h | h | h | h | h | h | h | h | h | h <;> subst h <;> decide +kernel

theorem width_of_and {m : Int} (h1 : 1 ≤ m) (h2 : m ≤ 65535) (h : bits .and .i64 m (m + 1) = 0) : 1 ≤ widthOf m ∧ Lib.bitLen m.toNat = widthOf m := by
  obtain ⟨x, rfl⟩ := Int.eq_ofNat_of_zero_le (show 0 ≤ m by omega)
  have e : (x : Int) + 1 = ((x + 1 : Nat) : Int) := rfl
  rw [e, and_i64_nat x (x + 1) (by omega) (by omega)] at h
  obtain ⟨k, hk⟩ := and_next x (by omega)
  have hk1 : 1 ≤ k := by
    rcases Nat.eq_zero_or_pos k with h0 | h0
    · subst h0; omega
    · exact h0
  have hk2 : k ≤ 16 := by
    rcases Nat.lt_or_ge 16 k with h0 | h0
    · have : 2 ^ 17 ≤ 2 ^ k := Nat.pow_le_pow_right (by decide) h0
      omega
    · exact h0
  have hw : widthOf (x : Int) = k := widthOf_eq hk1 hk2 (by rw [e, hk, Int.natCast_pow]; rfl)
  rw [hw]
  refine ⟨hk1, ?_⟩
  have : (x : Int).toNat = 2 ^ k - 1 := by rw [Int.toNat_natCast]; omega
  rw [this]
  exact bitLen_pow hk1 hk2

theorem width_no_and {m : Int} (h1 : 1 ≤ m) (h : bits .and .i64 m (m + 1) ≠ 0) : widthOf m = 0 := by
  rcases widthOf_spec m with ⟨h0, _⟩ | ⟨a, b, he⟩
  · exact h0
  · exfalso
    apply h
    have hm : m = 2 ^ widthOf m - 1 := by omega
    generalize widthOf m = k at *
    have : k = 1 ∨ k = 2 ∨ k = 3 ∨ k = 4 ∨ k = 5 ∨ k = 6 ∨ k = 7 ∨ k = 8 ∨ k = 9 ∨ k = 10 ∨ k = 11 ∨ k = 12 ∨ k = 13 ∨ k = 14 ∨ k = 15 ∨ k = 16 := by omega
    rcases this with h | h | h | h | h | h | h | h | h | h | h | h | h | h | h | h <;> subst h <;> subst hm <;> decide +kernel

/-- May a part be, in a value of n bits? -/
def partOk (n m s : Int) : Bool := decide (widthOf m ≠ 0 ∧ 0 ≤ s ∧ s + widthOf m ≤ n)

theorem partOk_iff {n m s : Int} : partOk n m s = true ↔ widthOf m ≠ 0 ∧ 0 ≤ s ∧ s + widthOf m ≤ n := by simp [partOk]

end Go.Proofs.Ytodlpofpeoiedaa
