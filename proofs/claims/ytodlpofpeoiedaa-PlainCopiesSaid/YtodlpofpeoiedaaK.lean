/-
  The contract of the document's Valid (miradorref13.Valid).
-/
import Derived.Test.YtodlpofpeoiedaaI
namespace Go.Proofs.Ytodlpofpeoiedaa
open Go.RowKit

abbrev Br (a b : Int) (c d : Bool) (rm gm bm rs gs bs : Int) : Array Value := #[.agg #[.int .i64 a, .int .i64 b, .bool c, .bool d, .int .i64 rm, .int .i64 gm, .int .i64 bm, .int .i64 rs, .int .i64 gs, .int .i64 bs]]

set_option maxHeartbeats 400000 in
theorem rvalid_bits (a b : Int) (c d : Bool) (rm gm bm rs gs bs : Int) (w : World) (h8 : ¬ a = 8) (h16 : ¬ a = 16) (h32 : ¬ a = 32) :
    Calls Try.prog 18 (Br a b c d rm gm bm rs gs bs) w fun e w' => e = .returned (.bool false) ∧ Below w.heap.size w w' := by
  go_enter Try.func18, Try.ntmps18
  go_wp2
  go_ret
  exact ⟨rfl, (Below.refl _ _).alloc (Nat.le_refl _) _⟩

set_option maxHeartbeats 800000 in
theorem rvalid_head (a b : Int) (c d : Bool) (rm gm bm rs gs bs : Int) (w : World) (ha : a = 8 ∨ a = 16 ∨ a = 32) (h : b < 1 ∨ a < b ∨ d = false) :
    Calls Try.prog 18 (Br a b c d rm gm bm rs gs bs) w fun e w' => e = .returned (.bool false) ∧ Below w.heap.size w w' := by
  by_cases c1 : b < 1
  · clear h
    rcases ha with rfl | rfl | rfl
    all_goals
      go_enter Try.func18, Try.ntmps18
      go_wp2
      go_ret
      exact ⟨rfl, (Below.refl _ _).alloc (Nat.le_refl _) _⟩
  by_cases c2 : a < b
  · clear h
    rcases ha with rfl | rfl | rfl
    all_goals
      go_enter Try.func18, Try.ntmps18
      go_wp2
      go_ret
      exact ⟨rfl, (Below.refl _ _).alloc (Nat.le_refl _) _⟩
  · obtain rfl : d = false := by rcases h with h | h | h <;> first | omega | exact h
    rcases ha with rfl | rfl | rfl
    all_goals
      go_enter Try.func18, Try.ntmps18
      go_wp2
      go_ret
      exact ⟨rfl, (Below.refl _ _).alloc (Nat.le_refl _) _⟩

set_option maxHeartbeats 3200000 in
set_option maxRecDepth 100000 in
theorem rvalid_r1 (a b : Int) (c : Bool) (rm gm bm rs gs bs : Int) (w : World) (ha : a = 8 ∨ a = 16 ∨ a = 32) (h1 : 1 ≤ b) (h2 : b ≤ a)
    (r1 : ∀ w, Calls Try.prog 80 #[.int .i64 a, .int .i64 rm, .int .i64 rs] w fun e w' => e = .returned (.bool false) ∧ w = w') :
    Calls Try.prog 18 (Br a b c true rm gm bm rs gs bs) w fun e w' => e = .returned (.bool false) ∧ Below w.heap.size w w' := by
  have R1 := hide r1
  clear r1
  rcases ha with rfl | rfl | rfl
  all_goals
    go_enter Try.func18, Try.ntmps18
    go_wp2_with fail
    refine (R1.out _).mono ?_
    rintro e w1 ⟨rfl, rfl⟩
    go_wp2_with fail
    go_ret
    exact ⟨rfl, (Below.refl _ _).alloc (Nat.le_refl _) _⟩

set_option maxHeartbeats 3200000 in
set_option maxRecDepth 100000 in
theorem rvalid_r2 (a b : Int) (c : Bool) (rm gm bm rs gs bs : Int) (w : World) (ha : a = 8 ∨ a = 16 ∨ a = 32) (h1 : 1 ≤ b) (h2 : b ≤ a)
    (r1 : ∀ w, Calls Try.prog 80 #[.int .i64 a, .int .i64 rm, .int .i64 rs] w fun e w' => e = .returned (.bool true) ∧ w = w') (r2 : ∀ w, Calls Try.prog 80 #[.int .i64 a, .int .i64 gm, .int .i64 gs] w fun e w' => e = .returned (.bool false) ∧ w = w') :
    Calls Try.prog 18 (Br a b c true rm gm bm rs gs bs) w fun e w' => e = .returned (.bool false) ∧ Below w.heap.size w w' := by
  have R1 := hide r1
  have R2 := hide r2
  clear r1 r2
  rcases ha with rfl | rfl | rfl
  all_goals
    go_enter Try.func18, Try.ntmps18
    go_wp2_with fail
    refine (R1.out _).mono ?_
    rintro e w1 ⟨rfl, rfl⟩
    go_wp2_with fail
    refine (R2.out _).mono ?_
    rintro e w2 ⟨rfl, rfl⟩
    go_wp2_with fail
    go_ret
    exact ⟨rfl, (Below.refl _ _).alloc (Nat.le_refl _) _⟩

set_option maxHeartbeats 3200000 in
set_option maxRecDepth 100000 in
theorem rvalid_r3 (a b : Int) (c : Bool) (rm gm bm rs gs bs : Int) (w : World) (ha : a = 8 ∨ a = 16 ∨ a = 32) (h1 : 1 ≤ b) (h2 : b ≤ a)
    (r1 : ∀ w, Calls Try.prog 80 #[.int .i64 a, .int .i64 rm, .int .i64 rs] w fun e w' => e = .returned (.bool true) ∧ w = w') (r2 : ∀ w, Calls Try.prog 80 #[.int .i64 a, .int .i64 gm, .int .i64 gs] w fun e w' => e = .returned (.bool true) ∧ w = w') (r3 : ∀ w, Calls Try.prog 80 #[.int .i64 a, .int .i64 bm, .int .i64 bs] w fun e w' => e = .returned (.bool false) ∧ w = w') :
    Calls Try.prog 18 (Br a b c true rm gm bm rs gs bs) w fun e w' => e = .returned (.bool false) ∧ Below w.heap.size w w' := by
  have R1 := hide r1
  have R2 := hide r2
  have R3 := hide r3
  clear r1 r2 r3
  rcases ha with rfl | rfl | rfl
  all_goals
    go_enter Try.func18, Try.ntmps18
    go_wp2_with fail
    refine (R1.out _).mono ?_
    rintro e w1 ⟨rfl, rfl⟩
    go_wp2_with fail
    refine (R2.out _).mono ?_
    rintro e w2 ⟨rfl, rfl⟩
    go_wp2_with fail
    refine (R3.out _).mono ?_
    rintro e w3 ⟨rfl, rfl⟩
    go_wp2_with fail
    go_ret
    exact ⟨rfl, (Below.refl _ _).alloc (Nat.le_refl _) _⟩

set_option maxHeartbeats 3200000 in
set_option maxRecDepth 100000 in
theorem rvalid_a12 (a b : Int) (c : Bool) (rm gm bm rs gs bs : Int) (x1 x2 x3 : Int) (w : World) (ha : a = 8 ∨ a = 16 ∨ a = 32) (h1 : 1 ≤ b) (h2 : b ≤ a)
    (r1 : ∀ w, Calls Try.prog 80 #[.int .i64 a, .int .i64 rm, .int .i64 rs] w fun e w' => e = .returned (.bool true) ∧ w = w') (r2 : ∀ w, Calls Try.prog 80 #[.int .i64 a, .int .i64 gm, .int .i64 gs] w fun e w' => e = .returned (.bool true) ∧ w = w') (r3 : ∀ w, Calls Try.prog 80 #[.int .i64 a, .int .i64 bm, .int .i64 bs] w fun e w' => e = .returned (.bool true) ∧ w = w') (m1 : ∀ w, Calls Try.prog 81 #[.int .i64 rm, .int .i64 rs] w fun e w' => e = .returned (.int .i64 x1) ∧ w = w') (m2 : ∀ w, Calls Try.prog 81 #[.int .i64 gm, .int .i64 gs] w fun e w' => e = .returned (.int .i64 x2) ∧ w = w') (m3 : ∀ w, Calls Try.prog 81 #[.int .i64 bm, .int .i64 bs] w fun e w' => e = .returned (.int .i64 x3) ∧ w = w') (a12 : bits .and .i64 x1 x2 ≠ 0) :
    Calls Try.prog 18 (Br a b c true rm gm bm rs gs bs) w fun e w' => e = .returned (.bool false) ∧ Below w.heap.size w w' := by
  have b12 : (bits .and .i64 x1 x2 == 0) = false := by simp [a12]
  clear a12
  have R1 := hide r1
  have R2 := hide r2
  have R3 := hide r3
  have M1 := hide m1
  have M2 := hide m2
  have M3 := hide m3
  clear r1 r2 r3 m1 m2 m3
  rcases ha with rfl | rfl | rfl
  all_goals
    go_enter Try.func18, Try.ntmps18
    go_wp2_with fail
    refine (R1.out _).mono ?_
    rintro e w1 ⟨rfl, rfl⟩
    go_wp2_with fail
    refine (R2.out _).mono ?_
    rintro e w2 ⟨rfl, rfl⟩
    go_wp2_with fail
    refine (R3.out _).mono ?_
    rintro e w3 ⟨rfl, rfl⟩
    go_wp2_with fail
    refine (M1.out _).mono ?_
    rintro e v1 ⟨rfl, rfl⟩
    go_wp2_with fail
    refine (M2.out _).mono ?_
    rintro e v2 ⟨rfl, rfl⟩
    go_wp2_with fail
    refine (M3.out _).mono ?_
    rintro e v3 ⟨rfl, rfl⟩
    go_wp2_with fail
    go_ret
    exact ⟨rfl, (Below.refl _ _).alloc (Nat.le_refl _) _⟩

set_option maxHeartbeats 3200000 in
set_option maxRecDepth 100000 in
theorem rvalid_a13 (a b : Int) (c : Bool) (rm gm bm rs gs bs : Int) (x1 x2 x3 : Int) (w : World) (ha : a = 8 ∨ a = 16 ∨ a = 32) (h1 : 1 ≤ b) (h2 : b ≤ a)
    (r1 : ∀ w, Calls Try.prog 80 #[.int .i64 a, .int .i64 rm, .int .i64 rs] w fun e w' => e = .returned (.bool true) ∧ w = w') (r2 : ∀ w, Calls Try.prog 80 #[.int .i64 a, .int .i64 gm, .int .i64 gs] w fun e w' => e = .returned (.bool true) ∧ w = w') (r3 : ∀ w, Calls Try.prog 80 #[.int .i64 a, .int .i64 bm, .int .i64 bs] w fun e w' => e = .returned (.bool true) ∧ w = w') (m1 : ∀ w, Calls Try.prog 81 #[.int .i64 rm, .int .i64 rs] w fun e w' => e = .returned (.int .i64 x1) ∧ w = w') (m2 : ∀ w, Calls Try.prog 81 #[.int .i64 gm, .int .i64 gs] w fun e w' => e = .returned (.int .i64 x2) ∧ w = w') (m3 : ∀ w, Calls Try.prog 81 #[.int .i64 bm, .int .i64 bs] w fun e w' => e = .returned (.int .i64 x3) ∧ w = w') (a12 : bits .and .i64 x1 x2 = 0) (a13 : bits .and .i64 x1 x3 ≠ 0) :
    Calls Try.prog 18 (Br a b c true rm gm bm rs gs bs) w fun e w' => e = .returned (.bool false) ∧ Below w.heap.size w w' := by
  have b12 : (bits .and .i64 x1 x2 == 0) = true := by simp [a12]
  clear a12
  have b13 : (bits .and .i64 x1 x3 == 0) = false := by simp [a13]
  clear a13
  have R1 := hide r1
  have R2 := hide r2
  have R3 := hide r3
  have M1 := hide m1
  have M2 := hide m2
  have M3 := hide m3
  clear r1 r2 r3 m1 m2 m3
  rcases ha with rfl | rfl | rfl
  all_goals
    go_enter Try.func18, Try.ntmps18
    go_wp2_with fail
    refine (R1.out _).mono ?_
    rintro e w1 ⟨rfl, rfl⟩
    go_wp2_with fail
    refine (R2.out _).mono ?_
    rintro e w2 ⟨rfl, rfl⟩
    go_wp2_with fail
    refine (R3.out _).mono ?_
    rintro e w3 ⟨rfl, rfl⟩
    go_wp2_with fail
    refine (M1.out _).mono ?_
    rintro e v1 ⟨rfl, rfl⟩
    go_wp2_with fail
    refine (M2.out _).mono ?_
    rintro e v2 ⟨rfl, rfl⟩
    go_wp2_with fail
    refine (M3.out _).mono ?_
    rintro e v3 ⟨rfl, rfl⟩
    go_wp2_with fail
    go_ret
    exact ⟨rfl, (Below.refl _ _).alloc (Nat.le_refl _) _⟩

set_option maxHeartbeats 3200000 in
set_option maxRecDepth 100000 in
theorem rvalid_a23 (a b : Int) (c : Bool) (rm gm bm rs gs bs : Int) (x1 x2 x3 : Int) (w : World) (ha : a = 8 ∨ a = 16 ∨ a = 32) (h1 : 1 ≤ b) (h2 : b ≤ a)
    (r1 : ∀ w, Calls Try.prog 80 #[.int .i64 a, .int .i64 rm, .int .i64 rs] w fun e w' => e = .returned (.bool true) ∧ w = w') (r2 : ∀ w, Calls Try.prog 80 #[.int .i64 a, .int .i64 gm, .int .i64 gs] w fun e w' => e = .returned (.bool true) ∧ w = w') (r3 : ∀ w, Calls Try.prog 80 #[.int .i64 a, .int .i64 bm, .int .i64 bs] w fun e w' => e = .returned (.bool true) ∧ w = w') (m1 : ∀ w, Calls Try.prog 81 #[.int .i64 rm, .int .i64 rs] w fun e w' => e = .returned (.int .i64 x1) ∧ w = w') (m2 : ∀ w, Calls Try.prog 81 #[.int .i64 gm, .int .i64 gs] w fun e w' => e = .returned (.int .i64 x2) ∧ w = w') (m3 : ∀ w, Calls Try.prog 81 #[.int .i64 bm, .int .i64 bs] w fun e w' => e = .returned (.int .i64 x3) ∧ w = w') (a12 : bits .and .i64 x1 x2 = 0) (a13 : bits .and .i64 x1 x3 = 0) (a23 : bits .and .i64 x2 x3 ≠ 0) :
    Calls Try.prog 18 (Br a b c true rm gm bm rs gs bs) w fun e w' => e = .returned (.bool false) ∧ Below w.heap.size w w' := by
  have b12 : (bits .and .i64 x1 x2 == 0) = true := by simp [a12]
  clear a12
  have b13 : (bits .and .i64 x1 x3 == 0) = true := by simp [a13]
  clear a13
  have b23 : (bits .and .i64 x2 x3 == 0) = false := by simp [a23]
  clear a23
  have R1 := hide r1
  have R2 := hide r2
  have R3 := hide r3
  have M1 := hide m1
  have M2 := hide m2
  have M3 := hide m3
  clear r1 r2 r3 m1 m2 m3
  rcases ha with rfl | rfl | rfl
  all_goals
    go_enter Try.func18, Try.ntmps18
    go_wp2_with fail
    refine (R1.out _).mono ?_
    rintro e w1 ⟨rfl, rfl⟩
    go_wp2_with fail
    refine (R2.out _).mono ?_
    rintro e w2 ⟨rfl, rfl⟩
    go_wp2_with fail
    refine (R3.out _).mono ?_
    rintro e w3 ⟨rfl, rfl⟩
    go_wp2_with fail
    refine (M1.out _).mono ?_
    rintro e v1 ⟨rfl, rfl⟩
    go_wp2_with fail
    refine (M2.out _).mono ?_
    rintro e v2 ⟨rfl, rfl⟩
    go_wp2_with fail
    refine (M3.out _).mono ?_
    rintro e v3 ⟨rfl, rfl⟩
    go_wp2_with fail
    go_ret
    exact ⟨rfl, (Below.refl _ _).alloc (Nat.le_refl _) _⟩

set_option maxHeartbeats 3200000 in
set_option maxRecDepth 100000 in
theorem rvalid_yes (a b : Int) (c : Bool) (rm gm bm rs gs bs : Int) (x1 x2 x3 : Int) (w : World) (ha : a = 8 ∨ a = 16 ∨ a = 32) (h1 : 1 ≤ b) (h2 : b ≤ a)
    (r1 : ∀ w, Calls Try.prog 80 #[.int .i64 a, .int .i64 rm, .int .i64 rs] w fun e w' => e = .returned (.bool true) ∧ w = w') (r2 : ∀ w, Calls Try.prog 80 #[.int .i64 a, .int .i64 gm, .int .i64 gs] w fun e w' => e = .returned (.bool true) ∧ w = w') (r3 : ∀ w, Calls Try.prog 80 #[.int .i64 a, .int .i64 bm, .int .i64 bs] w fun e w' => e = .returned (.bool true) ∧ w = w') (m1 : ∀ w, Calls Try.prog 81 #[.int .i64 rm, .int .i64 rs] w fun e w' => e = .returned (.int .i64 x1) ∧ w = w') (m2 : ∀ w, Calls Try.prog 81 #[.int .i64 gm, .int .i64 gs] w fun e w' => e = .returned (.int .i64 x2) ∧ w = w') (m3 : ∀ w, Calls Try.prog 81 #[.int .i64 bm, .int .i64 bs] w fun e w' => e = .returned (.int .i64 x3) ∧ w = w') (a12 : bits .and .i64 x1 x2 = 0) (a13 : bits .and .i64 x1 x3 = 0) (a23 : bits .and .i64 x2 x3 = 0) :
    Calls Try.prog 18 (Br a b c true rm gm bm rs gs bs) w fun e w' => e = .returned (.bool true) ∧ Below w.heap.size w w' := by
  have b12 : (bits .and .i64 x1 x2 == 0) = true := by simp [a12]
  clear a12
  have b13 : (bits .and .i64 x1 x3 == 0) = true := by simp [a13]
  clear a13
  have b23 : (bits .and .i64 x2 x3 == 0) = true := by simp [a23]
  clear a23
  have R1 := hide r1
  have R2 := hide r2
  have R3 := hide r3
  have M1 := hide m1
  have M2 := hide m2
  have M3 := hide m3
  clear r1 r2 r3 m1 m2 m3
  rcases ha with rfl | rfl | rfl
  all_goals
    go_enter Try.func18, Try.ntmps18
    go_wp2_with fail
    refine (R1.out _).mono ?_
    rintro e w1 ⟨rfl, rfl⟩
    go_wp2_with fail
    refine (R2.out _).mono ?_
    rintro e w2 ⟨rfl, rfl⟩
    go_wp2_with fail
    refine (R3.out _).mono ?_
    rintro e w3 ⟨rfl, rfl⟩
    go_wp2_with fail
    refine (M1.out _).mono ?_
    rintro e v1 ⟨rfl, rfl⟩
    go_wp2_with fail
    refine (M2.out _).mono ?_
    rintro e v2 ⟨rfl, rfl⟩
    go_wp2_with fail
    refine (M3.out _).mono ?_
    rintro e v3 ⟨rfl, rfl⟩
    go_wp2_with fail
    go_ret
    exact ⟨rfl, (Below.refl _ _).alloc (Nat.le_refl _) _⟩

end Go.Proofs.Ytodlpofpeoiedaa
