/-
  The contract of format.Valid, its longer ways.
-/
import Derived.Test.YtodlpofpeoiedaaMB
import Derived.Test.YtodlpofpeoiedaaMA
namespace Go.Proofs.Ytodlpofpeoiedaa
open Go.RowKit

set_option maxHeartbeats 3200000 in
set_option maxRecDepth 100000 in
theorem valid_yes (a b : Int) (c : Bool) (rm gm bm rs gs bs : Int) (x1 x2 x3 : Int) (y : Int) (w : World) (ha : a = 8 ∨ a = 16 ∨ a = 32) (h1 : 1 ≤ b) (h2 : b ≤ a)
    (r1 : ∀ w, Calls Try.prog 78 #[.agg #[.int .i64 rm, .int .i64 rs], .int .i64 a] w fun e w' => e = .returned (.bool true) ∧ Below w.heap.size w w') (r2 : ∀ w, Calls Try.prog 78 #[.agg #[.int .i64 gm, .int .i64 gs], .int .i64 a] w fun e w' => e = .returned (.bool true) ∧ Below w.heap.size w w') (r3 : ∀ w, Calls Try.prog 78 #[.agg #[.int .i64 bm, .int .i64 bs], .int .i64 a] w fun e w' => e = .returned (.bool true) ∧ Below w.heap.size w w') (m1 : ∀ w, Calls Try.prog 79 #[.agg #[.int .i64 rm, .int .i64 rs]] w fun e w' => e = .returned (.int .i64 x1) ∧ Below w.heap.size w w') (m2 : ∀ w, Calls Try.prog 79 #[.agg #[.int .i64 gm, .int .i64 gs]] w fun e w' => e = .returned (.int .i64 x2) ∧ Below w.heap.size w w') (m3 : ∀ w, Calls Try.prog 79 #[.agg #[.int .i64 bm, .int .i64 bs]] w fun e w' => e = .returned (.int .i64 x3) ∧ Below w.heap.size w w')
    (a1 : bits .and .i64 0 x1 = 0) (o1 : bits .or .i64 0 x1 = x1) (a2 : bits .and .i64 x1 x2 = 0) (o2 : bits .or .i64 x1 x2 = y) (a3 : bits .and .i64 y x3 = 0) :
    Calls Try.prog 17 (Ar a b c true rm gm bm rs gs bs) w fun e w' => e = .returned (.bool true) ∧ Below w.heap.size w w' := by
  have i0 := idx0 rm rs gm gs bm bs
  have i1 := idx1 rm rs gm gs bm bs
  have i2 := idx2 rm rs gm gs bm bs
  have ba1 : (bits .and .i64 0 x1 != 0) = false := by simp [a1]
  clear a1
  have ba2 : (bits .and .i64 x1 x2 != 0) = false := by simp [a2]
  clear a2
  have ba3 : (bits .and .i64 y x3 != 0) = false := by simp [a3]
  clear a3
  have R1 := hide r1
  have R2 := hide r2
  have R3 := hide r3
  have M1 := hide m1
  have M2 := hide m2
  have M3 := hide m3
  clear r1 r2 r3 m1 m2 m3
  rcases ha with rfl | rfl | rfl
  all_goals
    go_enter Try.func17, Try.ntmps17
    go_wp2_with (go_at_call 77; refine (parts_any _ _ _ _ _ _ _ _ _ _ _).mono ?_; rintro e w1 ⟨rfl, hb1⟩; obtain ⟨hc1, hf1⟩ := bcell hb1; have hz1 : w.heap.size < w1.heap.size := lt_al hb1)
    refine wp_loop_rounds 4 ?_
    rw [rounds_succ]
    go_wp2_with fail
    refine (R1.out _).mono ?_
    rintro e w2 ⟨rfl, hb2⟩; obtain ⟨hc2, hf2⟩ := bcell hb2; have hz2 : w1.heap.size < w2.heap.size := lt_al hb2; have hq2 : w.heap.size < w2.heap.size := by omega
    go_wp2_with fail
    refine (M1.out _).mono ?_
    rintro e w3 ⟨rfl, hb3⟩; obtain ⟨hc3, hf3⟩ := bcell hb3; have hz3 : w2.heap.size ≤ w3.heap.size := hb3.size; have hq3 : w.heap.size < w3.heap.size := by omega
    go_wp2_with fail
    refine (M1.out _).mono ?_
    rintro e w4 ⟨rfl, hb4⟩; obtain ⟨hc4, hf4⟩ := bcell hb4; have hz4 : w3.heap.size ≤ w4.heap.size := hb4.size; have hq4 : w.heap.size < w4.heap.size := by omega
    go_wp2_with fail
    rw [rounds_succ]
    go_wp2_with fail
    refine (R2.out _).mono ?_
    rintro e w5 ⟨rfl, hb5⟩; obtain ⟨hc5, hf5⟩ := bcell hb5; have hz5 : w4.heap.size < w5.heap.size := lt_al hb5; have hq5 : w.heap.size < w5.heap.size := by omega
    go_wp2_with fail
    refine (M2.out _).mono ?_
    rintro e w6 ⟨rfl, hb6⟩; obtain ⟨hc6, hf6⟩ := bcell hb6; have hz6 : w5.heap.size ≤ w6.heap.size := hb6.size; have hq6 : w.heap.size < w6.heap.size := by omega
    go_wp2_with fail
    refine (M2.out _).mono ?_
    rintro e w7 ⟨rfl, hb7⟩; obtain ⟨hc7, hf7⟩ := bcell hb7; have hz7 : w6.heap.size ≤ w7.heap.size := hb7.size; have hq7 : w.heap.size < w7.heap.size := by omega
    go_wp2_with fail
    rw [rounds_succ]
    go_wp2_with fail
    refine (R3.out _).mono ?_
    rintro e w8 ⟨rfl, hb8⟩; obtain ⟨hc8, hf8⟩ := bcell hb8; have hz8 : w7.heap.size < w8.heap.size := lt_al hb8; have hq8 : w.heap.size < w8.heap.size := by omega
    go_wp2_with fail
    refine (M3.out _).mono ?_
    rintro e w9 ⟨rfl, hb9⟩; obtain ⟨hc9, hf9⟩ := bcell hb9; have hz9 : w8.heap.size ≤ w9.heap.size := hb9.size; have hq9 : w.heap.size < w9.heap.size := by omega
    go_wp2_with fail
    refine (M3.out _).mono ?_
    rintro e w10 ⟨rfl, hb10⟩; obtain ⟨hc10, hf10⟩ := bcell hb10; have hz10 : w9.heap.size ≤ w10.heap.size := hb10.size; have hq10 : w.heap.size < w10.heap.size := by omega
    go_wp2_with fail
    rw [rounds_succ]
    go_wp2_with fail
    go_ret
    refine ⟨rfl, ?_⟩
    have t1 : Below w.heap.size w w1 := ((Below.refl _ _).alloc (Nat.le_refl _) _).trans (hb1.mono (by simp))
    have t2 : Below w.heap.size w w2 := (t1.alloc t1.size _).trans (hb2.mono (by simp; have := t1.size; omega))
    have t3 : Below w.heap.size w w3 := t2.trans (hb3.mono t2.size)
    have t4 : Below w.heap.size w w4 := t3.trans (hb4.mono t3.size)
    have t5 : Below w.heap.size w w5 := (t4.alloc t4.size _).trans (hb5.mono (by simp; have := t4.size; omega))
    have t6 : Below w.heap.size w w6 := t5.trans (hb6.mono t5.size)
    have t7 : Below w.heap.size w w7 := t6.trans (hb7.mono t6.size)
    have t8 : Below w.heap.size w w8 := (t7.alloc t7.size _).trans (hb8.mono (by simp; have := t7.size; omega))
    have t9 : Below w.heap.size w w9 := t8.trans (hb9.mono t8.size)
    have t10 : Below w.heap.size w w10 := t9.trans (hb10.mono t9.size)
    exact t10

end Go.Proofs.Ytodlpofpeoiedaa

/-
  The contract of the document's Valid (miradorref13.Valid).
-/
namespace Go.Proofs.Ytodlpofpeoiedaa
open Go.RowKit

abbrev Br (a b : Int) (c d : Bool) (rm gm bm rs gs bs : Int) : Array Value := #[.agg #[.int .i64 a, .int .i64 b, .bool c, .bool d, .int .i64 rm, .int .i64 gm, .int .i64 bm, .int .i64 rs, .int .i64 gs, .int .i64 bs]]

set_option maxHeartbeats 400000 in
theorem rvalid_bits (a b : Int) (c d : Bool) (rm gm bm rs gs bs : Int) (w : World) (h8 : ¬ a = 8) (h16 : ¬ a = 16) (h32 : ¬ a = 32) :
    Calls Try.prog 18 (Br a b c d rm gm bm rs gs bs) w fun e w' => e = .returned (.bool false) ∧ Below w.heap.size w w' := by
  go_enter Try.func18, Try.ntmps18
  go_wp2
  go_ret
  exact ⟨rfl, (Below.refl _ _).alloc (Nat.le_refl _) _⟩

set_option maxHeartbeats 800000 in
theorem rvalid_head (a b : Int) (c d : Bool) (rm gm bm rs gs bs : Int) (w : World) (ha : a = 8 ∨ a = 16 ∨ a = 32) (h : b < 1 ∨ a < b ∨ d = false) :
    Calls Try.prog 18 (Br a b c d rm gm bm rs gs bs) w fun e w' => e = .returned (.bool false) ∧ Below w.heap.size w w' := by
  by_cases c1 : b < 1
  · clear h
    rcases ha with rfl | rfl | rfl
    all_goals
      go_enter Try.func18, Try.ntmps18
      go_wp2
      go_ret
      exact ⟨rfl, (Below.refl _ _).alloc (Nat.le_refl _) _⟩
  by_cases c2 : a < b
  · clear h
    rcases ha with rfl | rfl | rfl
    all_goals
      go_enter Try.func18, Try.ntmps18
      go_wp2
      go_ret
      exact ⟨rfl, (Below.refl _ _).alloc (Nat.le_refl _) _⟩
  · obtain rfl : d = false := by rcases h with h | h | h <;> first | omega | exact h
    rcases ha with rfl | rfl | rfl
    all_goals
      go_enter Try.func18, Try.ntmps18
      go_wp2
      go_ret
      exact ⟨rfl, (Below.refl _ _).alloc (Nat.le_refl _) _⟩

set_option maxHeartbeats 3200000 in
set_option maxRecDepth 100000 in
theorem rvalid_r1 (a b : Int) (c : Bool) (rm gm bm rs gs bs : Int) (w : World) (ha : a = 8 ∨ a = 16 ∨ a = 32) (h1 : 1 ≤ b) (h2 : b ≤ a)
    (r1 : ∀ w, Calls Try.prog 80 #[.int .i64 a, .int .i64 rm, .int .i64 rs] w fun e w' => e = .returned (.bool false) ∧ w = w') :
    Calls Try.prog 18 (Br a b c true rm gm bm rs gs bs) w fun e w' => e = .returned (.bool false) ∧ Below w.heap.size w w' := by
  have R1 := hide r1
  clear r1
  rcases ha with rfl | rfl | rfl
  all_goals
    go_enter Try.func18, Try.ntmps18
    go_wp2_with fail
    refine (R1.out _).mono ?_
    rintro e w1 ⟨rfl, rfl⟩
    go_wp2_with fail
    go_ret
    exact ⟨rfl, (Below.refl _ _).alloc (Nat.le_refl _) _⟩

set_option maxHeartbeats 3200000 in
set_option maxRecDepth 100000 in
theorem rvalid_r2 (a b : Int) (c : Bool) (rm gm bm rs gs bs : Int) (w : World) (ha : a = 8 ∨ a = 16 ∨ a = 32) (h1 : 1 ≤ b) (h2 : b ≤ a)
    (r1 : ∀ w, Calls Try.prog 80 #[.int .i64 a, .int .i64 rm, .int .i64 rs] w fun e w' => e = .returned (.bool true) ∧ w = w') (r2 : ∀ w, Calls Try.prog 80 #[.int .i64 a, .int .i64 gm, .int .i64 gs] w fun e w' => e = .returned (.bool false) ∧ w = w') :
    Calls Try.prog 18 (Br a b c true rm gm bm rs gs bs) w fun e w' => e = .returned (.bool false) ∧ Below w.heap.size w w' := by
  have R1 := hide r1
  have R2 := hide r2
  clear r1 r2
  rcases ha with rfl | rfl | rfl
  all_goals
    go_enter Try.func18, Try.ntmps18
    go_wp2_with fail
    refine (R1.out _).mono ?_
    rintro e w1 ⟨rfl, rfl⟩
    go_wp2_with fail
    refine (R2.out _).mono ?_
    rintro e w2 ⟨rfl, rfl⟩
    go_wp2_with fail
    go_ret
    exact ⟨rfl, (Below.refl _ _).alloc (Nat.le_refl _) _⟩

set_option maxHeartbeats 3200000 in
set_option maxRecDepth 100000 in
theorem rvalid_r3 (a b : Int) (c : Bool) (rm gm bm rs gs bs : Int) (w : World) (ha : a = 8 ∨ a = 16 ∨ a = 32) (h1 : 1 ≤ b) (h2 : b ≤ a)
    (r1 : ∀ w, Calls Try.prog 80 #[.int .i64 a, .int .i64 rm, .int .i64 rs] w fun e w' => e = .returned (.bool true) ∧ w = w') (r2 : ∀ w, Calls Try.prog 80 #[.int .i64 a, .int .i64 gm, .int .i64 gs] w fun e w' => e = .returned (.bool true) ∧ w = w') (r3 : ∀ w, Calls Try.prog 80 #[.int .i64 a, .int .i64 bm, .int .i64 bs] w fun e w' => e = .returned (.bool false) ∧ w = w') :
    Calls Try.prog 18 (Br a b c true rm gm bm rs gs bs) w fun e w' => e = .returned (.bool false) ∧ Below w.heap.size w w' := by
  have R1 := hide r1
  have R2 := hide r2
  have R3 := hide r3
  clear r1 r2 r3
  rcases ha with rfl | rfl | rfl
  all_goals
    go_enter Try.func18, Try.ntmps18
    go_wp2_with fail
    refine (R1.out _).mono ?_
    rintro e w1 ⟨rfl, rfl⟩
    go_wp2_with fail
    refine (R2.out _).mono ?_
    rintro e w2 ⟨rfl, rfl⟩
    go_wp2_with fail
    refine (R3.out _).mono ?_
    rintro e w3 ⟨rfl, rfl⟩
    go_wp2_with fail
    go_ret
    exact ⟨rfl, (Below.refl _ _).alloc (Nat.le_refl _) _⟩

set_option maxHeartbeats 3200000 in
set_option maxRecDepth 100000 in
theorem rvalid_a12 (a b : Int) (c : Bool) (rm gm bm rs gs bs : Int) (x1 x2 x3 : Int) (w : World) (ha : a = 8 ∨ a = 16 ∨ a = 32) (h1 : 1 ≤ b) (h2 : b ≤ a)
    (r1 : ∀ w, Calls Try.prog 80 #[.int .i64 a, .int .i64 rm, .int .i64 rs] w fun e w' => e = .returned (.bool true) ∧ w = w') (r2 : ∀ w, Calls Try.prog 80 #[.int .i64 a, .int .i64 gm, .int .i64 gs] w fun e w' => e = .returned (.bool true) ∧ w = w') (r3 : ∀ w, Calls Try.prog 80 #[.int .i64 a, .int .i64 bm, .int .i64 bs] w fun e w' => e = .returned (.bool true) ∧ w = w') (m1 : ∀ w, Calls Try.prog 81 #[.int .i64 rm, .int .i64 rs] w fun e w' => e = .returned (.int .i64 x1) ∧ w = w') (m2 : ∀ w, Calls Try.prog 81 #[.int .i64 gm, .int .i64 gs] w fun e w' => e = .returned (.int .i64 x2) ∧ w = w') (m3 : ∀ w, Calls Try.prog 81 #[.int .i64 bm, .int .i64 bs] w fun e w' => e = .returned (.int .i64 x3) ∧ w = w') (a12 : bits .and .i64 x1 x2 ≠ 0) :
    Calls Try.prog 18 (Br a b c true rm gm bm rs gs bs) w fun e w' => e = .returned (.bool false) ∧ Below w.heap.size w w' := by
  have b12 : (bits .and .i64 x1 x2 == 0) = false := by simp [a12]
  clear a12
  have R1 := hide r1
  have R2 := hide r2
  have R3 := hide r3
  have M1 := hide m1
  have M2 := hide m2
  have M3 := hide m3
  clear r1 r2 r3 m1 m2 m3
  rcases ha with rfl | rfl | rfl
  all_goals
    go_enter Try.func18, Try.ntmps18
    go_wp2_with fail
    refine (R1.out _).mono ?_
    rintro e w1 ⟨rfl, rfl⟩
    go_wp2_with fail
    refine (R2.out _).mono ?_
    rintro e w2 ⟨rfl, rfl⟩
    go_wp2_with fail
    refine (R3.out _).mono ?_
    rintro e w3 ⟨rfl, rfl⟩
    go_wp2_with fail
    refine (M1.out _).mono ?_
    rintro e v1 ⟨rfl, rfl⟩
    go_wp2_with fail
    refine (M2.out _).mono ?_
    rintro e v2 ⟨rfl, rfl⟩
    go_wp2_with fail
    refine (M3.out _).mono ?_
    rintro e v3 ⟨rfl, rfl⟩
    go_wp2_with fail
    go_ret
    exact ⟨rfl, (Below.refl _ _).alloc (Nat.le_refl _) _⟩

set_option maxHeartbeats 3200000 in
set_option maxRecDepth 100000 in
theorem rvalid_a13 (a b : Int) (c : Bool) (rm gm bm rs gs bs : Int) (x1 x2 x3 : Int) (w : World) (ha : a = 8 ∨ a = 16 ∨ a = 32) (h1 : 1 ≤ b) (h2 : b ≤ a)
    (r1 : ∀ w, Calls Try.prog 80 #[.int .i64 a, .int .i64 rm, .int .i64 rs] w fun e w' => e = .returned (.bool true) ∧ w = w') (r2 : ∀ w, Calls Try.prog 80 #[.int .i64 a, .int .i64 gm, .int .i64 gs] w fun e w' => e = .returned (.bool true) ∧ w = w') (r3 : ∀ w, Calls Try.prog 80 #[.int .i64 a, .int .i64 bm, .int .i64 bs] w fun e w' => e = .returned (.bool true) ∧ w = w') (m1 : ∀ w, Calls Try.prog 81 #[.int .i64 rm, .int .i64 rs] w fun e w' => e = .returned (.int .i64 x1) ∧ w = w') (m2 : ∀ w, Calls Try.prog 81 #[.int .i64 gm, .int .i64 gs] w fun e w' => e = .returned (.int .i64 x2) ∧ w = w') (m3 : ∀ w, Calls Try.prog 81 #[.int .i64 bm, .int .i64 bs] w fun e w' => e = .returned (.int .i64 x3) ∧ w = w') (a12 : bits .and .i64 x1 x2 = 0) (a13 : bits .and .i64 x1 x3 ≠ 0) :
    Calls Try.prog 18 (Br a b c true rm gm bm rs gs bs) w fun e w' => e = .returned (.bool false) ∧ Below w.heap.size w w' := by
  have b12 : (bits .and .i64 x1 x2 == 0) = true := by simp [a12]
  clear a12
  have b13 : (bits .and .i64 x1 x3 == 0) = false := by simp [a13]
  clear a13
  have R1 := hide r1
  have R2 := hide r2
  have R3 := hide r3
  have M1 := hide m1
  have M2 := hide m2
  have M3 := hide m3
  clear r1 r2 r3 m1 m2 m3
  rcases ha with rfl | rfl | rfl
  all_goals
    go_enter Try.func18, Try.ntmps18
    go_wp2_with fail
    refine (R1.out _).mono ?_
    rintro e w1 ⟨rfl, rfl⟩
    go_wp2_with fail
    refine (R2.out _).mono ?_
    rintro e w2 ⟨rfl, rfl⟩
    go_wp2_with fail
    refine (R3.out _).mono ?_
    rintro e w3 ⟨rfl, rfl⟩
    go_wp2_with fail
    refine (M1.out _).mono ?_
    rintro e v1 ⟨rfl, rfl⟩
    go_wp2_with fail
    refine (M2.out _).mono ?_
    rintro e v2 ⟨rfl, rfl⟩
    go_wp2_with fail
    refine (M3.out _).mono ?_
    rintro e v3 ⟨rfl, rfl⟩
    go_wp2_with fail
    go_ret
    exact ⟨rfl, (Below.refl _ _).alloc (Nat.le_refl _) _⟩

set_option maxHeartbeats 3200000 in
set_option maxRecDepth 100000 in
theorem rvalid_a23 (a b : Int) (c : Bool) (rm gm bm rs gs bs : Int) (x1 x2 x3 : Int) (w : World) (ha : a = 8 ∨ a = 16 ∨ a = 32) (h1 : 1 ≤ b) (h2 : b ≤ a)
    (r1 : ∀ w, Calls Try.prog 80 #[.int .i64 a, .int .i64 rm, .int .i64 rs] w fun e w' => e = .returned (.bool true) ∧ w = w') (r2 : ∀ w, Calls Try.prog 80 #[.int .i64 a, .int .i64 gm, .int .i64 gs] w fun e w' => e = .returned (.bool true) ∧ w = w') (r3 : ∀ w, Calls Try.prog 80 #[.int .i64 a, .int .i64 bm, .int .i64 bs] w fun e w' => e = .returned (.bool true) ∧ w = w') (m1 : ∀ w, Calls Try.prog 81 #[.int .i64 rm, .int .i64 rs] w fun e w' => e = .returned (.int .i64 x1) ∧ w = w') (m2 : ∀ w, Calls Try.prog 81 #[.int .i64 gm, .int .i64 gs] w fun e w' => e = .returned (.int .i64 x2) ∧ w = w') (m3 : ∀ w, Calls Try.prog 81 #[.int .i64 bm, .int .i64 bs] w fun e w' => e = .returned (.int .i64 x3) ∧ w = w') (a12 : bits .and .i64 x1 x2 = 0) (a13 : bits .and .i64 x1 x3 = 0) (a23 : bits .and .i64 x2 x3 ≠ 0) :
    Calls Try.prog 18 (Br a b c true rm gm bm rs gs bs) w fun e w' => e = .returned (.bool false) ∧ Below w.heap.size w w' := by
  have b12 : (bits .and .i64 x1 x2 == 0) = true := by simp [a12]
  clear a12
  have b13 : (bits .and .i64 x1 x3 == 0) = true := by simp [a13]
  clear a13
  have b23 : (bits .and .i64 x2 x3 == 0) = false := by simp [a23]
  clear a23
  have R1 := hide r1
  have R2 := hide r2
  have R3 := hide r3
  have M1 := hide m1
  have M2 := hide m2
  have M3 := hide m3
  clear r1 r2 r3 m1 m2 m3
  rcases ha with rfl | rfl | rfl
  all_goals
    go_enter Try.func18, Try.ntmps18
    go_wp2_with fail
    refine (R1.out _).mono ?_
    rintro e w1 ⟨rfl, rfl⟩
    go_wp2_with fail
    refine (R2.out _).mono ?_
    rintro e w2 ⟨rfl, rfl⟩
    go_wp2_with fail
    refine (R3.out _).mono ?_
    rintro e w3 ⟨rfl, rfl⟩
    go_wp2_with fail
    refine (M1.out _).mono ?_
    rintro e v1 ⟨rfl, rfl⟩
    go_wp2_with fail
    refine (M2.out _).mono ?_
    rintro e v2 ⟨rfl, rfl⟩
    go_wp2_with fail
    refine (M3.out _).mono ?_
    rintro e v3 ⟨rfl, rfl⟩
    go_wp2_with fail
    go_ret
    exact ⟨rfl, (Below.refl _ _).alloc (Nat.le_refl _) _⟩

set_option maxHeartbeats 3200000 in
set_option maxRecDepth 100000 in
theorem rvalid_yes (a b : Int) (c : Bool) (rm gm bm rs gs bs : Int) (x1 x2 x3 : Int) (w : World) (ha : a = 8 ∨ a = 16 ∨ a = 32) (h1 : 1 ≤ b) (h2 : b ≤ a)
    (r1 : ∀ w, Calls Try.prog 80 #[.int .i64 a, .int .i64 rm, .int .i64 rs] w fun e w' => e = .returned (.bool true) ∧ w = w') (r2 : ∀ w, Calls Try.prog 80 #[.int .i64 a, .int .i64 gm, .int .i64 gs] w fun e w' => e = .returned (.bool true) ∧ w = w') (r3 : ∀ w, Calls Try.prog 80 #[.int .i64 a, .int .i64 bm, .int .i64 bs] w fun e w' => e = .returned (.bool true) ∧ w = w') (m1 : ∀ w, Calls Try.prog 81 #[.int .i64 rm, .int .i64 rs] w fun e w' => e = .returned (.int .i64 x1) ∧ w = w') (m2 : ∀ w, Calls Try.prog 81 #[.int .i64 gm, .int .i64 gs] w fun e w' => e = .returned (.int .i64 x2) ∧ w = w') (m3 : ∀ w, Calls Try.prog 81 #[.int .i64 bm, .int .i64 bs] w fun e w' => e = .returned (.int .i64 x3) ∧ w = w') (a12 : bits .and .i64 x1 x2 = 0) (a13 : bits .and .i64 x1 x3 = 0) (a23 : bits .and .i64 x2 x3 = 0) :
    Calls Try.prog 18 (Br a b c true rm gm bm rs gs bs) w fun e w' => e = .returned (.bool true) ∧ Below w.heap.size w w' := by
  have b12 : (bits .and .i64 x1 x2 == 0) = true := by simp [a12]
  clear a12
  have b13 : (bits .and .i64 x1 x3 == 0) = true := by simp [a13]
  clear a13
  have b23 : (bits .and .i64 x2 x3 == 0) = true := by simp [a23]
  clear a23
  have R1 := hide r1
  have R2 := hide r2
  have R3 := hide r3
  have M1 := hide m1
  have M2 := hide m2
  have M3 := hide m3
  clear r1 r2 r3 m1 m2 m3
  rcases ha with rfl | rfl | rfl
  all_goals
    go_enter Try.func18, Try.ntmps18
    go_wp2_with fail
    refine (R1.out _).mono ?_
    rintro e w1 ⟨rfl, rfl⟩
    go_wp2_with fail
    refine (R2.out _).mono ?_
    rintro e w2 ⟨rfl, rfl⟩
    go_wp2_with fail
    refine (R3.out _).mono ?_
    rintro e w3 ⟨rfl, rfl⟩
    go_wp2_with fail
    refine (M1.out _).mono ?_
    rintro e v1 ⟨rfl, rfl⟩
    go_wp2_with fail
    refine (M2.out _).mono ?_
    rintro e v2 ⟨rfl, rfl⟩
    go_wp2_with fail
    refine (M3.out _).mono ?_
    rintro e v3 ⟨rfl, rfl⟩
    go_wp2_with fail
    go_ret
    exact ⟨rfl, (Below.refl _ _).alloc (Nat.le_refl _) _⟩

end Go.Proofs.Ytodlpofpeoiedaa
