/-
  The contracts of the parts of a pixel format, in the program and in the document's answer: right, mask, parts; Width, part, mask; bit, flag; Standard.
-/
import Derived.Test.YtodlpofpeoiedaaS2
import Derived.Test.YtodlpofpeoiedaaF
import Derived.Test.YtodlpofpeoiedaaG
namespace Go.Proofs.Ytodlpofpeoiedaa
open Go.RowKit

theorem below_drewN {B : Nat} {a w : World} (h : Below B a w) (n : Nat) : Below B a (w.drewN n) := ⟨h.os, h.tape, h.output, h.size, h.block⟩

set_option maxHeartbeats 400000 in
/-- format.part.right. -/
theorem right_any (m s n : Int) (w : World) (hn : n = 8 ∨ n = 16 ∨ n = 32) (hs : s ≤ 9223372036854775807) :
    Calls Try.prog 78 #[.agg #[.int .i64 m, .int .i64 s], .int .i64 n] w fun e w' => e = .returned (.bool (partOk n m s)) ∧ Below w.heap.size w w' := by
  have no : widthOf m = 0 → partOk n m s = false := fun h => by simp [partOk, h]
  by_cases c1 : m < 1
  · rw [no (widthOf_out (.inl c1))]
    clear no hn hs
    go_enter Try.func78, Try.ntmps78
    go_wp2
    go_ret
    exact ⟨rfl, (Below.refl _ _).alloc (Nat.le_refl _) _⟩
  by_cases c2 : 65535 < m
  · rw [no (widthOf_out (.inr c2))]
    clear no hn hs
    go_enter Try.func78, Try.ntmps78
    go_wp2
    go_ret
    exact ⟨rfl, (Below.refl _ _).alloc (Nat.le_refl _) _⟩
  by_cases c3 : bits .and .i64 m (m + 1) = 0
  · obtain ⟨hw1, hw2⟩ := width_of_and (by omega) (by omega) c3
    have hb3 : (bits .and .i64 m (m + 1) != 0) = false := by simp [c3]
    by_cases c4 : s < 0
    · have : partOk n m s = false := by simp [partOk]; omega
      rw [this]
      clear no hn hs c3 hw1 hw2 this
      go_enter Try.func78, Try.ntmps78
      go_wp2
      go_ret
      exact ⟨rfl, (Below.refl _ _).alloc (Nat.le_refl _) _⟩
    by_cases c5 : n < s
    · have : partOk n m s = false := by simp [partOk]; omega
      rw [this]
      clear no hn hs c3 hw1 hw2 this
      go_enter Try.func78, Try.ntmps78
      go_wp2
      go_ret
      exact ⟨rfl, (Below.refl _ _).alloc (Nat.le_refl _) _⟩
    · have hp : partOk n m s = decide (s + (Lib.bitLen m.toNat : Int) ≤ n) := by
        rw [hw2, Bool.eq_iff_iff]
        simp only [partOk, decide_eq_true_eq]
        omega
      rw [hp]
      have hbl : Lib.bitLen m.toNat ≤ 64 := Lib.bitLen_le m.toNat 64 (by omega) (by omega)
      clear no hs c3 hw1 hw2 hp
      have hn' : n ≤ 32 := by omega
      have hn'' : 8 ≤ n := by omega
      clear hn
      go_enter Try.func78, Try.ntmps78
      go_wp2_with fail
      go_quiet ((go_at_call 129; exact Calls.quiet_of_same (bits_Len _ _ (by omega) (by omega))))
      go_wp2
      go_ret
      exact ⟨rfl, below_drewN ((Below.refl _ _).alloc (Nat.le_refl _) _) _⟩
  · rw [no (width_no_and (by omega) c3)]
    have hb3 : (bits .and .i64 m (m + 1) != 0) = true := by simp [c3]
    clear no hn hs c3
    go_enter Try.func78, Try.ntmps78
    go_wp2
    go_ret
    exact ⟨rfl, (Below.refl _ _).alloc (Nat.le_refl _) _⟩

set_option maxHeartbeats 400000 in
/-- format.part.mask. -/
theorem mask_any (m s : Int) (w : World) (h0 : 0 ≤ m) (h1 : m ≤ 65535) (h2 : 0 ≤ s) (h3 : s ≤ 32) :
    Calls Try.prog 79 #[.agg #[.int .i64 m, .int .i64 s]] w fun e w' => e = .returned (.int .i64 (m * 2 ^ s.toNat)) ∧ Below w.heap.size w w' := by
  obtain ⟨k, rfl⟩ := Int.eq_ofNat_of_zero_le h2
  have hk : k ≤ 32 := by omega
  have hp : (2 : Int) ^ k ≤ 4294967296 := by
    have : (2 ^ k : Nat) ≤ 2 ^ 32 := Nat.pow_le_pow_right (by decide) hk
    have e : ((2 ^ k : Nat) : Int) = (2 : Int) ^ k := Int.natCast_pow 2 k
    omega
  have hp0 : (0 : Int) < 2 ^ k := Int.pow_pos (by decide)
  have h4 : 0 ≤ m * 2 ^ k := Int.mul_nonneg h0 (by omega)
  have h5 : m * 2 ^ k ≤ 65535 * 4294967296 := Int.mul_le_mul h1 hp (by omega) (by omega)
  have hmin : min k 64 = k := by omega
  go_enter Try.func79, Try.ntmps79
  go_wp2
  go_ret
  exact ⟨by first | rfl | simp [hmin], (Below.refl _ _).alloc (Nat.le_refl _) _⟩

set_option maxHeartbeats 400000 in
/-- miradorref13.mask. -/
theorem rmask_any (m s : Int) (w : World) (h0 : 0 ≤ m) (h1 : m ≤ 65535) (h2 : 0 ≤ s) (h3 : s ≤ 32) :
    Calls Try.prog 81 #[.int .i64 m, .int .i64 s] w fun e w' => e = .returned (.int .i64 (m * 2 ^ s.toNat)) ∧ w = w' := by
  obtain ⟨k, rfl⟩ := Int.eq_ofNat_of_zero_le h2
  have hk : k ≤ 32 := by omega
  have hp : (2 : Int) ^ k ≤ 4294967296 := by
    have : (2 ^ k : Nat) ≤ 2 ^ 32 := Nat.pow_le_pow_right (by decide) hk
    have e : ((2 ^ k : Nat) : Int) = (2 : Int) ^ k := Int.natCast_pow 2 k
    omega
  have hp0 : (0 : Int) < 2 ^ k := Int.pow_pos (by decide)
  have h4 : 0 ≤ m * 2 ^ k := Int.mul_nonneg h0 (by omega)
  have h5 : m * 2 ^ k ≤ 65535 * 4294967296 := Int.mul_le_mul h1 hp (by omega) (by omega)
  have hmin : min k 64 = k := by omega
  go_enter Try.func81, Try.ntmps81
  go_wp2
  go_ret
  exact ⟨by first | rfl | simp [hmin], rfl⟩

set_option maxHeartbeats 400000 in
theorem bit_any (b : Bool) (w : World) : Calls Try.prog 82 #[.bool b] w fun e w' => e = .returned (.int .i64 (if b then 1 else 0)) ∧ w = w' := by
  cases b
  all_goals
    go_enter Try.func82, Try.ntmps82
    go_wp2
    go_ret
    exact ⟨rfl, rfl⟩

set_option maxHeartbeats 400000 in
theorem flag_any (b : Bool) (w : World) : Calls Try.prog 84 #[.bool b] w fun e w' => e = .returned (.int .i64 (if b then 1 else 0)) ∧ w = w' := by
  cases b
  all_goals
    go_enter Try.func84, Try.ntmps84
    go_wp2
    go_ret
    exact ⟨rfl, rfl⟩

set_option maxHeartbeats 400000 in
/-- miradorref13.Width. -/
theorem width_any (m : Int) (w : World) : Calls Try.prog 130 #[.int .i64 m] w fun e w' => e = .returned (.int .i64 (widthOf m)) ∧ w = w' := by
  have hsp := widthOf_spec m
  have HS := hide hsp
  clear hsp
  go_enter Try.func130, Try.ntmps130
  go_wp2
  go_loop [3, 4] (fun p k => ∃ j : Nat, j ≤ 16 ∧ k = .int .i64 ((j : Int) + 1) ∧ p = .int .i64 (2 ^ j) ∧ ∀ i : Nat, 1 ≤ i → i ≤ j → m + 1 ≠ 2 ^ i) (fun _ k => (17 - intOf k).toNat)
  case atStart => exact ⟨0, by omega, rfl, rfl, fun i h1 h2 => by omega⟩
  case round =>
    obtain ⟨j, hj, rfl, rfl, hno⟩ := hrel
    have HN := hide hno
    clear hno
    by_cases hlt : j < 16
    · have hp : (2 : Int) ^ j ≤ 65536 := by
        have : (2 ^ j : Nat) ≤ 2 ^ 16 := Nat.pow_le_pow_right (by decide) (by omega)
        have e : ((2 ^ j : Nat) : Int) = (2 : Int) ^ j := Int.natCast_pow 2 j
        omega
      have hp0 : (0 : Int) < 2 ^ j := Int.pow_pos (by decide)
      have HE : Hid ((2 : Int) ^ (j + 1) = 2 ^ j * 2) := Int.pow_succ 2 j
      by_cases he : m = 2 ^ j * 2 - 1
      · have hb : (m == 2 ^ j * 2 - 1) = true := by simp [he]
        have HW : Hid (widthOf m = j + 1) := widthOf_eq (by omega) (by omega) (by rw [HE.out]; omega)
        clear he
        go_wp2
        go_ret
        exact ⟨by rw [HW.out]; rfl, rfl⟩
      · have hb : (m == 2 ^ j * 2 - 1) = false := by simp [he]
        have HK := hide he
        clear he
        go_wp2
        go_round
        case rel => exact ⟨j + 1, by omega, by go_num, by rw [HE.out], fun i h1 h2 => by
            rcases Nat.lt_or_ge j i with h3 | h3
            · obtain rfl : i = j + 1 := by omega
              have := HK.out
              rw [HE.out]
              omega
            · exact HN.out i h1 h3⟩
        case measure => simp [intOf]; omega
    · have HW : Hid (widthOf m = 0) := by
        rcases HS.out with ⟨h0, _⟩ | ⟨a, b, he⟩
        · exact h0
        · exact absurd he (HN.out _ a (by omega))
      go_wp2
      go_ret
      exact ⟨by rw [HW.out]; rfl, rfl⟩

set_option maxHeartbeats 400000 in
/-- miradorref13.part. -/
theorem rpart_any (m s n : Int) (w : World) (hn : n = 8 ∨ n = 16 ∨ n = 32) :
    Calls Try.prog 80 #[.int .i64 n, .int .i64 m, .int .i64 s] w fun e w' => e = .returned (.bool (partOk n m s)) ∧ w = w' := by
  have hW := width_any m
  have hb : widthOf m ≤ 16 := by rcases widthOf_spec m with ⟨h0, _⟩ | ⟨_, b, _⟩ <;> omega
  have hp : partOk n m s = decide (widthOf m ≠ 0 ∧ 0 ≤ s ∧ s + widthOf m ≤ n) := rfl
  generalize widthOf m = k at *
  have HW := hide hW
  clear hW
  have hn' : n ≤ 32 := by omega
  clear hn
  by_cases c1 : k = 0
  · have : partOk n m s = false := by rw [hp]; simp [c1]
    rw [this]
    subst c1
    clear hp this
    go_enter Try.func80, Try.ntmps80
    go_wp2_with (go_at_call 130; refine (HW.out _).mono ?_; rintro e w' ⟨rfl, rfl⟩)
    go_ret
    exact ⟨rfl, rfl⟩
  by_cases c2 : s < 0
  · have : partOk n m s = false := by rw [hp]; simp; omega
    rw [this]
    clear hp this
    have c1' : 0 < k := by omega
    go_enter Try.func80, Try.ntmps80
    go_wp2_with (go_at_call 130; refine (HW.out _).mono ?_; rintro e w' ⟨rfl, rfl⟩)
    go_ret
    exact ⟨rfl, rfl⟩
  by_cases c3 : 32 < s
  · have : partOk n m s = false := by rw [hp]; simp; omega
    rw [this]
    clear hp this
    have c1' : 0 < k := by omega
    go_enter Try.func80, Try.ntmps80
    go_wp2_with (go_at_call 130; refine (HW.out _).mono ?_; rintro e w' ⟨rfl, rfl⟩)
    go_ret
    exact ⟨rfl, rfl⟩
  · have : partOk n m s = decide (s + (k : Int) ≤ n) := by
      rw [hp, Bool.eq_iff_iff]
      simp only [decide_eq_true_eq]
      omega
    rw [this]
    clear hp this
    have c1' : 0 < k := by omega
    go_enter Try.func80, Try.ntmps80
    go_wp2_with (go_at_call 130; refine (HW.out _).mono ?_; rintro e w' ⟨rfl, rfl⟩)
    go_ret
    exact ⟨rfl, rfl⟩

end Go.Proofs.Ytodlpofpeoiedaa
