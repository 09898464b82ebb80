/-
  format.Valid and miradorref13.Valid: both answer 'validB'.
-/
import Derived.Test.YtodlpofpeoiedaaJ2
import Derived.Test.YtodlpofpeoiedaaJ3
import Derived.Test.YtodlpofpeoiedaaK
namespace Go.Proofs.Ytodlpofpeoiedaa
open Go.RowKit

theorem pow_le32 {k : Nat} (h : k ≤ 32) : (2 : Int) ^ k ≤ 4294967296 ∧ (0 : Int) < 2 ^ k := by
  have h1 : (2 ^ k : Nat) ≤ 2 ^ 32 := Nat.pow_le_pow_right (by decide) h
  have e : ((2 ^ k : Nat) : Int) = (2 : Int) ^ k := Int.natCast_pow 2 k
  exact ⟨by omega, Int.pow_pos (by decide)⟩

/-- A part that may be: its bits' bounds. -/
theorem partOk_bd {n m s : Int} (hn : n ≤ 32) (h : partOk n m s = true) : 1 ≤ m ∧ m ≤ 65535 ∧ 0 ≤ s ∧ s ≤ 32 := by
  obtain ⟨h1, h2, h3⟩ := partOk_iff.1 h
  rcases widthOf_spec m with ⟨h0, _⟩ | ⟨a, b, he⟩
  · exact absurd h0 h1
  · have := pow_bd a b
    omega

theorem mk_nat {m s : Int} (h0 : 1 ≤ m) (h1 : m ≤ 65535) (h2 : 0 ≤ s) (h3 : s ≤ 32) : ∃ x : Nat, mk m s = x ∧ x < 9223372036854775808 := by
  obtain ⟨p, q⟩ := pow_le32 (k := s.toNat) (by omega)
  have h4 : 0 ≤ m * 2 ^ s.toNat := Int.mul_nonneg (by omega) (by omega)
  have h5 : m * 2 ^ s.toNat ≤ 65535 * 4294967296 := Int.mul_le_mul h1 p (by omega) (by omega)
  refine ⟨(m * 2 ^ s.toNat).toNat, ?_, ?_⟩
  · unfold mk; omega
  · omega

theorem and_zero (x : Nat) (h : x < 9223372036854775808) : bits .and .i64 0 x = 0 := by
  have := and_i64_nat 0 x (by omega) h
  simpa using this
theorem or_zero (x : Nat) (h : x < 9223372036854775808) : bits .or .i64 0 x = x := by
  have := or_i64_nat 0 x (by omega) h
  simpa using this

theorem or_and_nat (x y z : Nat) (hx : x < 9223372036854775808) (hy : y < 9223372036854775808) (hz : z < 9223372036854775808) :
    bits .and .i64 (bits .or .i64 x y) z = 0 ↔ bits .and .i64 x z = 0 ∧ bits .and .i64 y z = 0 := by
  have hxy : x ||| y < 2 ^ 63 := Nat.or_lt_two_pow (by omega) (by omega)
  rw [or_i64_nat x y hx hy, and_i64_nat _ z (by omega) hz, and_i64_nat x z hx hz, and_i64_nat y z hy hz, Nat.and_or_distrib_right]
  have : ((x &&& z ||| y &&& z : Nat) : Int) = 0 ↔ (x &&& z ||| y &&& z) = 0 := by omega
  rw [this, Nat.or_eq_zero_iff]
  omega

theorem valid_any (f : Fmt) (w : World) (hr : f.rs ≤ 9223372036854775807) (hg : f.gs ≤ 9223372036854775807) (hb : f.bs ≤ 9223372036854775807) :
    Calls Try.prog 17 #[fmtV f] w fun e w' => e = .returned (.bool (validB f)) ∧ Below w.heap.size w w' := by
  obtain ⟨a, b, c, d, rm, gm, bm, rs, gs, bs⟩ := f
  by_cases ha : a = 8 ∨ a = 16 ∨ a = 32
  rotate_left
  · have : validB ⟨a, b, c, d, rm, gm, bm, rs, gs, bs⟩ = false := by simp [validB, headOk, ha]
    rw [this]
    exact valid_bits a b c d rm gm bm rs gs bs w (by omega) (by omega) (by omega)
  by_cases hh : b < 1 ∨ a < b ∨ d = false
  · have : validB ⟨a, b, c, d, rm, gm, bm, rs, gs, bs⟩ = false := by
      have : headOk ⟨a, b, c, d, rm, gm, bm, rs, gs, bs⟩ = false := by
        simp only [headOk, decide_eq_false_iff_not]
        rintro ⟨_, h1, h2, h3⟩
        rcases hh with h | h | h
        · omega
        · omega
        · simp_all
      simp [validB, this]
    rw [this]
    exact valid_head a b c d rm gm bm rs gs bs w ha hh
  obtain rfl : d = true := by
    cases d
    · exact absurd (.inr (.inr rfl)) hh
    · rfl
  have h1 : 1 ≤ b := by omega
  have h2 : b ≤ a := by omega
  have hn : a ≤ 32 := by omega
  have hho : headOk ⟨a, b, c, true, rm, gm, bm, rs, gs, bs⟩ = true := by simp [headOk]; omega
  have R1 : ∀ v, partOk a rm rs = v → ∀ w, Calls Try.prog 78 #[.agg #[.int .i64 rm, .int .i64 rs], .int .i64 a] w fun e w' => e = .returned (.bool v) ∧ Below w.heap.size w w' := fun v hv w => hv ▸ right_any rm rs a w ha hr
  have R2 : ∀ v, partOk a gm gs = v → ∀ w, Calls Try.prog 78 #[.agg #[.int .i64 gm, .int .i64 gs], .int .i64 a] w fun e w' => e = .returned (.bool v) ∧ Below w.heap.size w w' := fun v hv w => hv ▸ right_any gm gs a w ha hg
  have R3 : ∀ v, partOk a bm bs = v → ∀ w, Calls Try.prog 78 #[.agg #[.int .i64 bm, .int .i64 bs], .int .i64 a] w fun e w' => e = .returned (.bool v) ∧ Below w.heap.size w w' := fun v hv w => hv ▸ right_any bm bs a w ha hb
  cases p1 : partOk a rm rs with
  | false =>
    rw [show validB ⟨a, b, c, true, rm, gm, bm, rs, gs, bs⟩ = false by simp [validB, p1]]
    exact valid_r1 a b c rm gm bm rs gs bs w ha h1 h2 (R1 _ p1)
  | true =>
  obtain ⟨q1, q2, q3, q4⟩ := partOk_bd hn p1
  have M1 := fun w => mask_any rm rs w (by omega) q2 q3 q4
  obtain ⟨x1, e1, l1⟩ := mk_nat q1 q2 q3 q4
  cases p2 : partOk a gm gs with
  | false =>
    rw [show validB ⟨a, b, c, true, rm, gm, bm, rs, gs, bs⟩ = false by simp [validB, p2]]
    exact valid_r2 a b c rm gm bm rs gs bs (mk rm rs) w ha h1 h2 (R1 _ p1) (R2 _ p2) M1 (by rw [e1]; exact and_zero x1 l1) (by rw [e1]; exact or_zero x1 l1)
  | true =>
  obtain ⟨g1, g2, g3, g4⟩ := partOk_bd hn p2
  have M2 := fun w => mask_any gm gs w (by omega) g2 g3 g4
  obtain ⟨x2, e2, l2⟩ := mk_nat g1 g2 g3 g4
  by_cases a12 : bits .and .i64 (mk rm rs) (mk gm gs) = 0
  rotate_left
  · rw [show validB ⟨a, b, c, true, rm, gm, bm, rs, gs, bs⟩ = false by simp [validB, apart, a12]]
    exact valid_a2 a b c rm gm bm rs gs bs (mk rm rs) (mk gm gs) w ha h1 h2 (R1 _ p1) (R2 _ p2) M1 M2 (by rw [e1]; exact and_zero x1 l1) (by rw [e1]; exact or_zero x1 l1) a12
  cases p3 : partOk a bm bs with
  | false =>
    rw [show validB ⟨a, b, c, true, rm, gm, bm, rs, gs, bs⟩ = false by simp [validB, p3]]
    exact valid_r3 a b c rm gm bm rs gs bs (mk rm rs) (mk gm gs) _ w ha h1 h2 (R1 _ p1) (R2 _ p2) (R3 _ p3) M1 M2 (by rw [e1]; exact and_zero x1 l1) (by rw [e1]; exact or_zero x1 l1) a12 rfl
  | true =>
  obtain ⟨b1, b2, b3, b4⟩ := partOk_bd hn p3
  have M3 := fun w => mask_any bm bs w (by omega) b2 b3 b4
  obtain ⟨x3, e3, l3⟩ := mk_nat b1 b2 b3 b4
  have hor := or_and_nat x1 x2 x3 l1 l2 l3
  rw [← e1, ← e2, ← e3] at hor
  by_cases a3 : bits .and .i64 (bits .or .i64 (mk rm rs) (mk gm gs)) (mk bm bs) = 0
  · obtain ⟨a13, a23⟩ := hor.1 a3
    rw [show validB ⟨a, b, c, true, rm, gm, bm, rs, gs, bs⟩ = true by simp [validB, apart, hho, p1, p2, p3, a12, a13, a23]]
    exact valid_yes a b c rm gm bm rs gs bs (mk rm rs) (mk gm gs) (mk bm bs) _ w ha h1 h2 (R1 _ p1) (R2 _ p2) (R3 _ p3) M1 M2 M3 (by rw [e1]; exact and_zero x1 l1) (by rw [e1]; exact or_zero x1 l1) a12 rfl a3
  · have hx : ¬ (bits .and .i64 (mk rm rs) (mk bm bs) = 0 ∧ bits .and .i64 (mk gm gs) (mk bm bs) = 0) := fun h => a3 (hor.2 h)
    rw [show validB ⟨a, b, c, true, rm, gm, bm, rs, gs, bs⟩ = false by
      have : apart ⟨a, b, c, true, rm, gm, bm, rs, gs, bs⟩ = false := by
        simp only [apart, a12, beq_self_eq_true, Bool.true_and, Bool.and_eq_false_iff, beq_eq_false_iff_ne]
        by_cases h13 : bits .and .i64 (mk rm rs) (mk bm bs) = 0
        · exact .inr fun h23 => hx ⟨h13, h23⟩
        · exact .inl h13
      simp [validB, this]]
    exact valid_a3 a b c rm gm bm rs gs bs (mk rm rs) (mk gm gs) (mk bm bs) _ w ha h1 h2 (R1 _ p1) (R2 _ p2) (R3 _ p3) M1 M2 M3 (by rw [e1]; exact and_zero x1 l1) (by rw [e1]; exact or_zero x1 l1) a12 rfl a3

theorem rvalid_any (f : Fmt) (w : World) :
    Calls Try.prog 18 #[fmtV f] w fun e w' => e = .returned (.bool (validB f)) ∧ Below w.heap.size w w' := by
  obtain ⟨a, b, c, d, rm, gm, bm, rs, gs, bs⟩ := f
  by_cases ha : a = 8 ∨ a = 16 ∨ a = 32
  rotate_left
  · have : validB ⟨a, b, c, d, rm, gm, bm, rs, gs, bs⟩ = false := by simp [validB, headOk, ha]
    rw [this]
    exact rvalid_bits a b c d rm gm bm rs gs bs w (by omega) (by omega) (by omega)
  by_cases hh : b < 1 ∨ a < b ∨ d = false
  · have : validB ⟨a, b, c, d, rm, gm, bm, rs, gs, bs⟩ = false := by
      have : headOk ⟨a, b, c, d, rm, gm, bm, rs, gs, bs⟩ = false := by
        simp only [headOk, decide_eq_false_iff_not]
        rintro ⟨_, h1, h2, h3⟩
        rcases hh with h | h | h
        · omega
        · omega
        · simp_all
      simp [validB, this]
    rw [this]
    exact rvalid_head a b c d rm gm bm rs gs bs w ha hh
  obtain rfl : d = true := by
    cases d
    · exact absurd (.inr (.inr rfl)) hh
    · rfl
  have h1 : 1 ≤ b := by omega
  have h2 : b ≤ a := by omega
  have hn : a ≤ 32 := by omega
  have hho : headOk ⟨a, b, c, true, rm, gm, bm, rs, gs, bs⟩ = true := by simp [headOk]; omega
  have R1 : ∀ v, partOk a rm rs = v → ∀ w, Calls Try.prog 80 #[.int .i64 a, .int .i64 rm, .int .i64 rs] w fun e w' => e = .returned (.bool v) ∧ w = w' := fun v hv w => hv ▸ rpart_any rm rs a w ha
  have R2 : ∀ v, partOk a gm gs = v → ∀ w, Calls Try.prog 80 #[.int .i64 a, .int .i64 gm, .int .i64 gs] w fun e w' => e = .returned (.bool v) ∧ w = w' := fun v hv w => hv ▸ rpart_any gm gs a w ha
  have R3 : ∀ v, partOk a bm bs = v → ∀ w, Calls Try.prog 80 #[.int .i64 a, .int .i64 bm, .int .i64 bs] w fun e w' => e = .returned (.bool v) ∧ w = w' := fun v hv w => hv ▸ rpart_any bm bs a w ha
  cases p1 : partOk a rm rs with
  | false =>
    rw [show validB ⟨a, b, c, true, rm, gm, bm, rs, gs, bs⟩ = false by simp [validB, p1]]
    exact rvalid_r1 a b c rm gm bm rs gs bs w ha h1 h2 (R1 _ p1)
  | true =>
  cases p2 : partOk a gm gs with
  | false =>
    rw [show validB ⟨a, b, c, true, rm, gm, bm, rs, gs, bs⟩ = false by simp [validB, p2]]
    exact rvalid_r2 a b c rm gm bm rs gs bs w ha h1 h2 (R1 _ p1) (R2 _ p2)
  | true =>
  cases p3 : partOk a bm bs with
  | false =>
    rw [show validB ⟨a, b, c, true, rm, gm, bm, rs, gs, bs⟩ = false by simp [validB, p3]]
    exact rvalid_r3 a b c rm gm bm rs gs bs w ha h1 h2 (R1 _ p1) (R2 _ p2) (R3 _ p3)
  | true =>
  obtain ⟨q1, q2, q3, q4⟩ := partOk_bd hn p1
  have M1 := fun w => rmask_any rm rs w (by omega) q2 q3 q4
  obtain ⟨g1, g2, g3, g4⟩ := partOk_bd hn p2
  have M2 := fun w => rmask_any gm gs w (by omega) g2 g3 g4
  obtain ⟨b1, b2, b3, b4⟩ := partOk_bd hn p3
  have M3 := fun w => rmask_any bm bs w (by omega) b2 b3 b4
  by_cases a12 : bits .and .i64 (mk rm rs) (mk gm gs) = 0
  rotate_left
  · rw [show validB ⟨a, b, c, true, rm, gm, bm, rs, gs, bs⟩ = false by simp [validB, apart, a12]]
    exact rvalid_a12 a b c rm gm bm rs gs bs (mk rm rs) (mk gm gs) (mk bm bs) w ha h1 h2 (R1 _ p1) (R2 _ p2) (R3 _ p3) M1 M2 M3 a12
  by_cases a13 : bits .and .i64 (mk rm rs) (mk bm bs) = 0
  rotate_left
  · rw [show validB ⟨a, b, c, true, rm, gm, bm, rs, gs, bs⟩ = false by simp [validB, apart, a13]]
    exact rvalid_a13 a b c rm gm bm rs gs bs (mk rm rs) (mk gm gs) (mk bm bs) w ha h1 h2 (R1 _ p1) (R2 _ p2) (R3 _ p3) M1 M2 M3 a12 a13
  by_cases a23 : bits .and .i64 (mk gm gs) (mk bm bs) = 0
  rotate_left
  · rw [show validB ⟨a, b, c, true, rm, gm, bm, rs, gs, bs⟩ = false by simp [validB, apart, a23]]
    exact rvalid_a23 a b c rm gm bm rs gs bs (mk rm rs) (mk gm gs) (mk bm bs) w ha h1 h2 (R1 _ p1) (R2 _ p2) (R3 _ p3) M1 M2 M3 a12 a13 a23
  · rw [show validB ⟨a, b, c, true, rm, gm, bm, rs, gs, bs⟩ = true by simp [validB, apart, hho, p1, p2, p3, a12, a13, a23]]
    exact rvalid_yes a b c rm gm bm rs gs bs (mk rm rs) (mk gm gs) (mk bm bs) w ha h1 h2 (R1 _ p1) (R2 _ p2) (R3 _ p3) M1 M2 M3 a12 a13 a23

end Go.Proofs.Ytodlpofpeoiedaa
