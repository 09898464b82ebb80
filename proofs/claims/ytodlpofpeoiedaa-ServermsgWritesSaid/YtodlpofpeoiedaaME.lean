/-
  Colours and values, in plain numbers: what a colour's value is, what a value's colour is, and that parts that share no bit are added.
-/
import Derived.Test.YtodlpofpeoiedaaMD
import Derived.OwnWalk
import Derived.Deep.Cut
namespace Go.Proofs.Ytodlpofpeoiedaa
open Go.RowKit

theorem pow_cases {k : Nat} (h1 : 1 ≤ k) (h2 : k ≤ 16) : k = 1 ∨ k = 2 ∨ k = 3 ∨ k = 4 ∨ k = 5 ∨ k = 6 ∨ k = 7 ∨ k = 8 ∨ k = 9 ∨ k = 10 ∨ k = 11 ∨ k = 12 ∨ k = 13 ∨ k = 14 ∨ k = 15 ∨ k = 16 := by omega

/-- The lowest k bits of any number. -/
theorem and_pow (n : Int) {k : Nat} (h1 : 1 ≤ k) (h2 : k ≤ 16) : bits .and .i64 n (2 ^ k - 1) = n % 2 ^ k := by
  have hm : (BitVec.ofInt 64 (2 ^ k - 1)).toNat = 2 ^ k - 1 := by
    rcases pow_cases h1 h2 with h | h | h | h | h | h | h | h | h | h | h | h | h | h | h | h <;> subst h <;> decide
  have key : (BitVec.ofInt 64 n &&& BitVec.ofInt 64 (2 ^ k - 1)).toNat = (n % ((2 ^ 64 : Nat) : Int)).toNat % 2 ^ k := by
    rw [BitVec.toNat_and, BitVec.toNat_ofInt, hm, Nat.and_two_pow_sub_one_eq_mod]
  show IntKind.i64.wrap ((BitVec.ofInt 64 n &&& BitVec.ofInt 64 (2 ^ k - 1)).toNat : Nat) = n % 2 ^ k
  rw [key, IntKind.wrap_i64]
  clear key hm
  rcases pow_cases h1 h2 with h | h | h | h | h | h | h | h | h | h | h | h | h | h | h | h <;> subst h <;> omega

theorem and_255 (n : Int) : bits .and .i64 n 255 = n % 256 := and_pow n (k := 8) (by decide) (by decide)

/-- A part's value among its bits: 'value & most'. -/
theorem and_width (n : Int) {m : Int} (h : widthOf m ≠ 0) : bits .and .i64 n m = n % (m + 1) := by
  rcases widthOf_spec m with ⟨h0, _⟩ | ⟨a, b, he⟩
  · exact absurd h0 h
  · have hm : m = 2 ^ widthOf m - 1 := by omega
    have := and_pow n a b
    rw [← hm] at this
    rw [this, he]

/-- A part of a colour, as a part of a value. -/
def dn (x m : Int) : Int := (x * m + 127) / 255
/-- A part of a value, as a part of a colour. -/
def up (x m : Int) : Int := (x * 255 + m / 2) / m

theorem mul_bd {x m a b : Int} (h0 : 0 ≤ x) (h1 : x ≤ a) (h2 : 0 ≤ m) (h3 : m ≤ b) : 0 ≤ x * m ∧ x * m ≤ a * b :=
  ⟨Int.mul_nonneg h0 h2, Int.mul_le_mul h1 h3 h2 (by omega)⟩

theorem dn_bd {x m : Int} (h0 : 0 ≤ x) (h1 : x ≤ 255) (h2 : 0 ≤ m) : 0 ≤ dn x m ∧ dn x m ≤ m := by
  have h3 : x * m ≤ 255 * m := Int.mul_le_mul_of_nonneg_right h1 h2
  have h4 : 0 ≤ x * m := Int.mul_nonneg h0 h2
  unfold dn
  omega

theorem up_bd {x m : Int} (h0 : 0 ≤ x) (h1 : x ≤ m) (h2 : 1 ≤ m) : 0 ≤ up x m ∧ up x m ≤ 255 := by
  unfold up
  have hn : 0 ≤ x * 255 + m / 2 := by omega
  refine ⟨Int.ediv_nonneg hn (by omega), ?_⟩
  have : (x * 255 + m / 2) / m < 256 := Int.ediv_lt_of_lt_mul (by omega) (by omega)
  omega

/-- Of a part's bits: what is at most the part's greatest value lies within the part's mask. -/
theorem in_mask {m s : Int} (hw : widthOf m ≠ 0) (h2 : 0 ≤ s) (h3 : s ≤ 32) {d : Int} (h0 : 0 ≤ d) (h1 : d ≤ m) :
    ∃ x y : Nat, d * 2 ^ s.toNat = x ∧ mk m s = y ∧ x < 9223372036854775808 ∧ y < 9223372036854775808 ∧ x &&& y = x := by
  rcases widthOf_spec m with ⟨hz, _⟩ | ⟨a, b, he⟩
  · exact absurd hz hw
  generalize widthOf m = k at *
  obtain ⟨n, rfl⟩ := Int.eq_ofNat_of_zero_le h0
  obtain ⟨t, rfl⟩ := Int.eq_ofNat_of_zero_le h2
  have hp := pow_bd a b
  have hk : (2 ^ k : Nat) ≤ 65536 := by
    have e : ((2 ^ k : Nat) : Int) = (2 : Int) ^ k := Int.natCast_pow 2 k
    omega
  have hm : m = ((2 ^ k - 1 : Nat) : Int) := by
    have e : ((2 ^ k : Nat) : Int) = (2 : Int) ^ k := Int.natCast_pow 2 k
    have : 0 < 2 ^ k := Nat.two_pow_pos k
    omega
  have hn : n < 2 ^ k := by omega
  have ht : (2 ^ t : Nat) ≤ 2 ^ 32 := Nat.pow_le_pow_right (by decide) (by omega)
  have h1 : n * 2 ^ t ≤ 65536 * 4294967296 := Nat.mul_le_mul (by omega) ht
  have h2 : (2 ^ k - 1) * 2 ^ t ≤ 65536 * 4294967296 := Nat.mul_le_mul (by omega) ht
  refine ⟨n * 2 ^ t, (2 ^ k - 1) * 2 ^ t, ?_, ?_, by omega, by omega, ?_⟩
  · rw [Int.toNat_natCast, Int.natCast_mul, Int.natCast_pow]; rfl
  · unfold mk
    rw [hm, Int.toNat_natCast, Int.natCast_mul, Int.natCast_pow]; rfl
  · rw [← Nat.shiftLeft_eq, ← Nat.shiftLeft_eq, ← Nat.shiftLeft_and_distrib, Nat.and_two_pow_sub_one_eq_mod, Nat.mod_eq_of_lt hn]

theorem or_add_nat (x y : Nat) (h : x &&& y = 0) : x ||| y = x + y := by
  have h1 : BitVec.ofNat (x + y + 1) x &&& BitVec.ofNat (x + y + 1) y = 0#(x + y + 1) := by
    apply BitVec.eq_of_toNat_eq
    rw [BitVec.toNat_and, BitVec.toNat_ofNat, BitVec.toNat_ofNat, Nat.mod_eq_of_lt, Nat.mod_eq_of_lt, h]
    · simp
    · exact Nat.lt_of_lt_of_le Nat.lt_two_pow_self (Nat.pow_le_pow_right (by decide) (by omega))
    · exact Nat.lt_of_lt_of_le Nat.lt_two_pow_self (Nat.pow_le_pow_right (by decide) (by omega))
  have h2 := congrArg BitVec.toNat (BitVec.add_eq_or_of_and_eq_zero _ _ h1)
  have hs : x + y < 2 ^ (x + y + 1) := Nat.lt_of_lt_of_le Nat.lt_two_pow_self (Nat.pow_le_pow_right (by decide) (by omega))
  rw [BitVec.toNat_add, BitVec.toNat_or, BitVec.toNat_ofNat, BitVec.toNat_ofNat, Nat.mod_eq_of_lt (show x < 2 ^ (x + y + 1) by omega), Nat.mod_eq_of_lt (show y < 2 ^ (x + y + 1) by omega), Nat.mod_eq_of_lt hs] at h2
  exact h2.symm

/-- Two parts that share no bit are added. -/
theorem or_parts {a b p q : Nat} (ha : a < 9223372036854775808) (hb : b < 9223372036854775808) (h1 : a &&& p = a) (h2 : b &&& q = b) (h : p &&& q = 0) : bits .or .i64 (a : Int) (b : Int) = (a : Int) + b := by
  have h0 : a &&& b = 0 := by
    rw [← h1, ← h2]
    have : (a &&& p) &&& (b &&& q) = (a &&& b) &&& (p &&& q) := by
      rw [Nat.and_assoc, Nat.and_assoc, ← Nat.and_assoc p b q, Nat.and_comm p b, Nat.and_assoc b p q]
    rw [this, h, Nat.and_zero]
  rw [or_i64_nat a b ha hb, or_add_nat a b h0]
  rfl

end Go.Proofs.Ytodlpofpeoiedaa

/-
  The contract of format.Value.
-/
namespace Go.Proofs.Ytodlpofpeoiedaa
open Go.RowKit

set_option maxHeartbeats 3200000 in
set_option maxRecDepth 100000 in
theorem value_walk (a b : Int) (e f : Bool) (rm gm bm : Int) (rs gs bs : Nat) (c x1 x2 x3 d1 d2 d3 X1 X2 X3 Y Z : Int) (w : World)
    (hV : ∀ w, Calls Try.prog 17 #[.agg #[.int .i64 a, .int .i64 b, .bool e, .bool f, .int .i64 rm, .int .i64 gm, .int .i64 bm, .int .i64 rs, .int .i64 gs, .int .i64 bs]] w fun e w' => e = .returned (.bool true) ∧ Below w.heap.size w w')
    (a1 : bits .and .i64 (c / 65536) 255 = x1) (p1 : 0 ≤ x1 * rm) (q1 : x1 * rm ≤ 16711425) (e1 : (x1 * rm + 127) / 255 = d1) (g1 : d1 * 2 ^ rs = X1) (u1 : 0 ≤ X1) (v1 : X1 ≤ 281474976710656) (n1 : min rs 64 = rs)
    (a2 : bits .and .i64 (c / 256) 255 = x2) (p2 : 0 ≤ x2 * gm) (q2 : x2 * gm ≤ 16711425) (e2 : (x2 * gm + 127) / 255 = d2) (g2 : d2 * 2 ^ gs = X2) (u2 : 0 ≤ X2) (v2 : X2 ≤ 281474976710656) (n2 : min gs 64 = gs)
    (a3 : bits .and .i64 c 255 = x3) (p3 : 0 ≤ x3 * bm) (q3 : x3 * bm ≤ 16711425) (e3 : (x3 * bm + 127) / 255 = d3) (g3 : d3 * 2 ^ bs = X3) (u3 : 0 ≤ X3) (v3 : X3 ≤ 281474976710656) (n3 : min bs 64 = bs)
    (o1 : bits .or .i64 0 X1 = X1) (o2 : bits .or .i64 X1 X2 = Y) (o3 : bits .or .i64 Y X3 = Z) :
    Calls Try.prog 39 #[.agg #[.int .i64 a, .int .i64 b, .bool e, .bool f, .int .i64 rm, .int .i64 gm, .int .i64 bm, .int .i64 rs, .int .i64 gs, .int .i64 bs], .int .i64 c] w fun e w' => e = .returned (.int .i64 Z) ∧ Below w.heap.size w w' := by
  have HV := hide hV
  clear hV
  have i0 := idx0 rm rs gm gs bm bs
  have i1 := idx1 rm rs gm gs bm bs
  have i2 := idx2 rm rs gm gs bm bs
  go_enter Try.func39, Try.ntmps39
  go_wp2_with fail
  refine (HV.out _).mono ?_
  rintro e w1 ⟨rfl, hb1⟩; obtain ⟨hc1, hf1⟩ := bcell hb1; have hz1 := lt_al hb1
  go_wp2_with fail
  refine (parts_any _ _ _ _ _ _ _ _ _ _ _).mono ?_
  rintro e w2 ⟨rfl, hb2⟩; obtain ⟨hc2, hf2⟩ := bcell hb2; have hz2 := hb2.size; have hq2 : w.heap.size < w2.heap.size := by omega
  have B2 : Below w.heap.size w w2 := (((Below.refl _ _).alloc (Nat.le_refl _) _).trans (hb1.mono (by simp))).trans (hb2.mono (by omega))
  have HB := hide B2
  clear B2
  go_wp2_with fail
  refine wp_loop_rounds 4 ?_
  rw [rounds_succ]
  go_wp2_with fail
  rw [rounds_succ]
  go_wp2_with fail
  rw [rounds_succ]
  go_wp2_with fail
  rw [rounds_succ]
  go_wp2_with fail
  go_ret
  refine ⟨rfl, ?_⟩
  have hle := HB.out.size
  exact ((HB.out.alloc hle _).alloc (by simp; omega) _).alloc (by simp; omega) _


/-- A colour's value. -/
def valV (f : Fmt) (c : Int) : Int := dn (c / 65536 % 256) f.rm * 2 ^ f.rs.toNat + dn (c / 256 % 256) f.gm * 2 ^ f.gs.toNat + dn (c % 256) f.bm * 2 ^ f.bs.toNat

theorem valid_parts {f : Fmt} (h : validB f = true) : (f.bits = 8 ∨ f.bits = 16 ∨ f.bits = 32) ∧ partOk f.bits f.rm f.rs = true ∧ partOk f.bits f.gm f.gs = true ∧ partOk f.bits f.bm f.bs = true ∧
    bits .and .i64 (mk f.rm f.rs) (mk f.gm f.gs) = 0 ∧ bits .and .i64 (mk f.rm f.rs) (mk f.bm f.bs) = 0 ∧ bits .and .i64 (mk f.gm f.gs) (mk f.bm f.bs) = 0 := by
  simp only [validB, apart, headOk, Bool.and_eq_true, decide_eq_true_eq, beq_iff_eq] at h
  obtain ⟨⟨⟨⟨h1, h2⟩, h3⟩, h4⟩, ⟨h5, h6⟩, h7⟩ := h
  exact ⟨h1.1, h2, h3, h4, h5, h6, h7⟩

theorem mod_bd (c : Int) : 0 ≤ c % 256 ∧ c % 256 ≤ 255 := by omega

theorem and_zero_nat {p q : Nat} (hp : p < 9223372036854775808) (hq : q < 9223372036854775808) (h : bits .and .i64 (p : Int) (q : Int) = 0) : p &&& q = 0 := by
  rw [and_i64_nat p q hp hq] at h
  exact Int.ofNat.inj h

/-- What lies within two parts' masks lies within both. -/
theorem or_in {a b p q : Nat} (h1 : a &&& p = a) (h2 : b &&& q = b) : (a ||| b) &&& (p ||| q) = a ||| b := by
  apply Nat.eq_of_testBit_eq
  intro i
  have e1 := congrArg (fun n => n.testBit i) h1
  have e2 := congrArg (fun n => n.testBit i) h2
  simp only [Nat.testBit_and] at e1 e2
  simp only [Nat.testBit_and, Nat.testBit_or]
  revert e1 e2
  cases a.testBit i <;> cases b.testBit i <;> cases p.testBit i <;> cases q.testBit i <;> simp

/-- The three parts of a value: each lies within its mask, and they are added. -/
theorem val_parts {f : Fmt} (h : validB f = true) {d1 d2 d3 : Int} (h1 : 0 ≤ d1 ∧ d1 ≤ f.rm) (h2 : 0 ≤ d2 ∧ d2 ≤ f.gm) (h3 : 0 ≤ d3 ∧ d3 ≤ f.bm) :
    (0 ≤ d1 * 2 ^ f.rs.toNat ∧ d1 * 2 ^ f.rs.toNat ≤ 281474976710656) ∧ (0 ≤ d2 * 2 ^ f.gs.toNat ∧ d2 * 2 ^ f.gs.toNat ≤ 281474976710656) ∧ (0 ≤ d3 * 2 ^ f.bs.toNat ∧ d3 * 2 ^ f.bs.toNat ≤ 281474976710656) ∧
    bits .or .i64 0 (d1 * 2 ^ f.rs.toNat) = d1 * 2 ^ f.rs.toNat ∧
    bits .or .i64 (d1 * 2 ^ f.rs.toNat) (d2 * 2 ^ f.gs.toNat) = d1 * 2 ^ f.rs.toNat + d2 * 2 ^ f.gs.toNat ∧
    bits .or .i64 (d1 * 2 ^ f.rs.toNat + d2 * 2 ^ f.gs.toNat) (d3 * 2 ^ f.bs.toNat) = d1 * 2 ^ f.rs.toNat + d2 * 2 ^ f.gs.toNat + d3 * 2 ^ f.bs.toNat := by
  obtain ⟨hb, r1, r2, r3, a12, a13, a23⟩ := valid_parts h
  have hn : f.bits ≤ 32 := by omega
  have bd : ∀ (m s d : Int), partOk f.bits m s = true → 0 ≤ d → d ≤ m → 0 ≤ d * 2 ^ s.toNat ∧ d * 2 ^ s.toNat ≤ 281474976710656 := by
    intro m s d hp h0 h1
    obtain ⟨q1, q2, q3, q4⟩ := partOk_bd hn hp
    obtain ⟨p1, p2⟩ := pow_le32 (k := s.toNat) (by omega)
    refine ⟨Int.mul_nonneg h0 (by omega), ?_⟩
    have := Int.mul_le_mul (show d ≤ 65536 by omega) p1 (by omega) (by omega)
    omega
  refine ⟨bd _ _ _ r1 h1.1 h1.2, bd _ _ _ r2 h2.1 h2.2, bd _ _ _ r3 h3.1 h3.2, ?_⟩
  obtain ⟨q1, q2, q3, q4⟩ := partOk_bd hn r1
  obtain ⟨q5, q6, q7, q8⟩ := partOk_bd hn r2
  obtain ⟨q9, q10, q11, q12⟩ := partOk_bd hn r3
  obtain ⟨X1, M1, e1, g1, l1, k1, z1⟩ := in_mask (partOk_iff.1 r1).1 q3 q4 h1.1 h1.2
  obtain ⟨X2, M2, e2, g2, l2, k2, z2⟩ := in_mask (partOk_iff.1 r2).1 q7 q8 h2.1 h2.2
  obtain ⟨X3, M3, e3, g3, l3, k3, z3⟩ := in_mask (partOk_iff.1 r3).1 q11 q12 h3.1 h3.2
  rw [g1, g2] at a12
  rw [g1, g3] at a13
  rw [g2, g3] at a23
  have n12 := and_zero_nat k1 k2 a12
  have n13 := and_zero_nat k1 k3 a13
  have n23 := and_zero_nat k2 k3 a23
  rw [e1, e2, e3]
  refine ⟨or_zero X1 l1, or_parts l1 l2 z1 z2 n12, ?_⟩
  have hx := or_parts l1 l2 z1 z2 n12
  have hor : ((X1 ||| X2 : Nat) : Int) = (X1 : Int) + X2 := by rw [← hx, or_i64_nat X1 X2 l1 l2]
  rw [← hor]
  have hlt : X1 ||| X2 < 2 ^ 63 := Nat.or_lt_two_pow (by omega) (by omega)
  refine or_parts (by omega) l3 (or_in z1 z2) z3 ?_
  rw [Nat.and_or_distrib_right, n13, n23]
  rfl

/-- format.Value of a format that may be. -/
theorem value_any (f : Fmt) (c : Int) (w : World) (h : validB f = true) :
    Calls Try.prog 39 #[fmtV f, .int .i64 c] w fun e w' => e = .returned (.int .i64 (valV f c)) ∧ Below w.heap.size w w' := by
  obtain ⟨hb, r1, r2, r3, _⟩ := valid_parts h
  have hn : f.bits ≤ 32 := by omega
  obtain ⟨q1, q2, q3, q4⟩ := partOk_bd hn r1
  obtain ⟨q5, q6, q7, q8⟩ := partOk_bd hn r2
  obtain ⟨q9, q10, q11, q12⟩ := partOk_bd hn r3
  obtain ⟨x1, y1⟩ := mod_bd (c / 65536)
  obtain ⟨x2, y2⟩ := mod_bd (c / 256)
  obtain ⟨x3, y3⟩ := mod_bd c
  have D1 := dn_bd x1 y1 (show 0 ≤ f.rm by omega)
  have D2 := dn_bd x2 y2 (show 0 ≤ f.gm by omega)
  have D3 := dn_bd x3 y3 (show 0 ≤ f.bm by omega)
  have V := fun w => valid_any f w (by omega) (by omega) (by omega)
  rw [h] at V
  obtain ⟨⟨u1, v1⟩, ⟨u2, v2⟩, ⟨u3, v3⟩, o1, o2, o3⟩ := val_parts h D1 D2 D3
  obtain ⟨p1, t1⟩ := mul_bd x1 y1 (show 0 ≤ f.rm by omega) q2
  obtain ⟨p2, t2⟩ := mul_bd x2 y2 (show 0 ≤ f.gm by omega) q6
  obtain ⟨p3, t3⟩ := mul_bd x3 y3 (show 0 ≤ f.bm by omega) q10
  obtain ⟨a, b, e, t, rm, gm, bm, rs, gs, bs⟩ := f
  obtain ⟨rs, rfl⟩ := Int.eq_ofNat_of_zero_le q3
  obtain ⟨gs, rfl⟩ := Int.eq_ofNat_of_zero_le q7
  obtain ⟨bs, rfl⟩ := Int.eq_ofNat_of_zero_le q11
  simp only [Int.toNat_natCast] at *
  exact value_walk a b e t rm gm bm rs gs bs c _ _ _ _ _ _ _ _ _ _ _ w V (and_255 _) p1 t1 rfl rfl u1 v1 (by omega) (and_255 _) p2 t2 rfl rfl u2 v2 (by omega) (and_255 _) p3 t3 rfl rfl u3 v3 (by omega) o1 o2 o3

end Go.Proofs.Ytodlpofpeoiedaa

/-
  The contract of format.Colour, and of Quant.
-/
namespace Go.Proofs.Ytodlpofpeoiedaa
open Go.RowKit

set_option maxHeartbeats 3200000 in
set_option maxRecDepth 100000 in
theorem colour_walk (a b : Int) (e f : Bool) (rm gm bm : Int) (rs gs bs : Nat) (v x1 x2 x3 u1 u2 u3 Y Z : Int) (w : World)
    (hV : ∀ w, Calls Try.prog 17 #[.agg #[.int .i64 a, .int .i64 b, .bool e, .bool f, .int .i64 rm, .int .i64 gm, .int .i64 bm, .int .i64 rs, .int .i64 gs, .int .i64 bs]] w fun e w' => e = .returned (.bool true) ∧ Below w.heap.size w w')
    (a1 : bits .and .i64 (v / 2 ^ rs) rm = x1) (p1 : 0 ≤ x1) (q1 : x1 ≤ 65535) (m1 : 1 ≤ rm) (l1 : rm ≤ 65535) (e1 : (x1 * 255 + rm / 2) / rm = u1) (g1 : 0 ≤ u1) (k1 : u1 ≤ 255) (n1 : min rs 64 = rs)
    (a2 : bits .and .i64 (v / 2 ^ gs) gm = x2) (p2 : 0 ≤ x2) (q2 : x2 ≤ 65535) (m2 : 1 ≤ gm) (l2 : gm ≤ 65535) (e2 : (x2 * 255 + gm / 2) / gm = u2) (n2 : min gs 64 = gs) (a3 : bits .and .i64 (v / 2 ^ bs) bm = x3) (p3 : 0 ≤ x3)
    (q3 : x3 ≤ 65535) (m3 : 1 ≤ bm) (l3 : bm ≤ 65535) (e3 : (x3 * 255 + bm / 2) / bm = u3) (n3 : min bs 64 = bs) (o1 : bits .or .i64 0 u1 = u1) (o2 : bits .or .i64 (u1 * 256) u2 = Y) (y0 : 0 ≤ Y) (y1 : Y ≤ 65535)
    (o3 : bits .or .i64 (Y * 256) u3 = Z) :
    Calls Try.prog 40 #[.agg #[.int .i64 a, .int .i64 b, .bool e, .bool f, .int .i64 rm, .int .i64 gm, .int .i64 bm, .int .i64 rs, .int .i64 gs, .int .i64 bs], .int .i64 v] w fun e w' => e = .returned (.int .i64 Z) ∧ Below w.heap.size w w' := by
  have HV := hide hV
  clear hV
  have i0 := idx0 rm rs gm gs bm bs
  have i1 := idx1 rm rs gm gs bm bs
  have i2 := idx2 rm rs gm gs bm bs
  go_enter Try.func40, Try.ntmps40
  go_wp2_with fail
  refine (HV.out _).mono ?_
  rintro e w1 ⟨rfl, hb1⟩; obtain ⟨hc1, hf1⟩ := bcell hb1; have hz1 := lt_al hb1
  go_wp2_with fail
  refine (parts_any _ _ _ _ _ _ _ _ _ _ _).mono ?_
  rintro e w2 ⟨rfl, hb2⟩; obtain ⟨hc2, hf2⟩ := bcell hb2; have hz2 := hb2.size; have hq2 : w.heap.size < w2.heap.size := by omega
  have B2 : Below w.heap.size w w2 := (((Below.refl _ _).alloc (Nat.le_refl _) _).trans (hb1.mono (by simp))).trans (hb2.mono (by omega))
  have HB := hide B2
  clear B2
  go_wp2_with fail
  refine wp_loop_rounds 4 ?_
  rw [rounds_succ]
  go_wp2_with fail
  go_quiet (fail)
  go_wp2_with fail
  rw [rounds_succ]
  go_wp2_with fail
  go_quiet (fail)
  go_wp2_with fail
  rw [rounds_succ]
  go_wp2_with fail
  go_quiet (fail)
  go_wp2_with fail
  rw [rounds_succ]
  go_wp2_with fail
  go_ret
  refine ⟨rfl, ?_⟩
  repeat (first | exact HB.out | refine below_drewN ?_ _ | refine below_al ?_ (Nat.le_refl _) _)


/-- A value's colour. -/
def colV (f : Fmt) (v : Int) : Int := up (v / 2 ^ f.rs.toNat % (f.rm + 1)) f.rm * 65536 + up (v / 2 ^ f.gs.toNat % (f.gm + 1)) f.gm * 256 + up (v / 2 ^ f.bs.toNat % (f.bm + 1)) f.bm
/-- What is left of a colour. -/
def quantV (f : Fmt) (c : Int) : Int := colV f (valV f c)

theorem or_low (x y : Int) (h0 : 0 ≤ x) (h1 : x ≤ 65535) (h2 : 0 ≤ y) (h3 : y ≤ 255) : bits .or .i64 (x * 256) y = x * 256 + y := by
  have hc : bits .or .i64 (x * 256) y = bits .or .i64 y (x * 256) := by simp only [bits, BitVec.or_comm]
  rw [hc]
  obtain ⟨a, rfl⟩ := Int.eq_ofNat_of_zero_le h0
  obtain ⟨b, rfl⟩ := Int.eq_ofNat_of_zero_le h2
  have h := or_nat 8 b a (by omega) (by omega) (by omega)
  have e : ((a * 2 ^ 8 : Nat) : Int) = (a : Int) * 256 := by rw [Int.natCast_mul]; rfl
  rw [e] at h
  rw [h]
  omega

theorem emod_bd (n m : Int) (h : 1 ≤ m) (h2 : m ≤ 65535) : 0 ≤ n % (m + 1) ∧ n % (m + 1) ≤ m ∧ n % (m + 1) ≤ 65535 := by
  have h1 := Int.emod_nonneg n (show m + 1 ≠ 0 by omega)
  have h3 := Int.emod_lt_of_pos n (show 0 < m + 1 by omega)
  omega

/-- format.Colour of a format that may be. -/
theorem colour_any (f : Fmt) (v : Int) (w : World) (h : validB f = true) :
    Calls Try.prog 40 #[fmtV f, .int .i64 v] w fun e w' => e = .returned (.int .i64 (colV f v)) ∧ Below w.heap.size w w' := by
  obtain ⟨hb, r1, r2, r3, _⟩ := valid_parts h
  have hn : f.bits ≤ 32 := by omega
  obtain ⟨q1, q2, q3, q4⟩ := partOk_bd hn r1
  obtain ⟨q5, q6, q7, q8⟩ := partOk_bd hn r2
  obtain ⟨q9, q10, q11, q12⟩ := partOk_bd hn r3
  have V := fun w => valid_any f w (by omega) (by omega) (by omega)
  rw [h] at V
  have W1 := (partOk_iff.1 r1).1
  have W2 := (partOk_iff.1 r2).1
  have W3 := (partOk_iff.1 r3).1
  unfold colV
  obtain ⟨a, b, e, t, rm, gm, bm, rs, gs, bs⟩ := f
  obtain ⟨rs, rfl⟩ := Int.eq_ofNat_of_zero_le q3
  obtain ⟨gs, rfl⟩ := Int.eq_ofNat_of_zero_le q7
  obtain ⟨bs, rfl⟩ := Int.eq_ofNat_of_zero_le q11
  simp only [Int.toNat_natCast] at *
  obtain ⟨z1, z2, z3⟩ := emod_bd (v / 2 ^ rs) rm q1 q2
  obtain ⟨z4, z5, z6⟩ := emod_bd (v / 2 ^ gs) gm q5 q6
  obtain ⟨z7, z8, z9⟩ := emod_bd (v / 2 ^ bs) bm q9 q10
  obtain ⟨g1, k1⟩ := up_bd z1 z2 q1
  obtain ⟨g2, k2⟩ := up_bd z4 z5 q5
  obtain ⟨g3, k3⟩ := up_bd z7 z8 q9
  refine colour_walk a b e t rm gm bm rs gs bs v _ _ _ _ _ _ (up (v / 2 ^ rs % (rm + 1)) rm * 256 + up (v / 2 ^ gs % (gm + 1)) gm) _ w V
    (and_width _ W1) z1 z3 q1 q2 rfl g1 k1 (by omega) (and_width _ W2) z4 z6 q5 q6 rfl (by omega) (and_width _ W3) z7 z9 q9 q10 rfl (by omega) ?_ ?_ (by omega) (by omega) ?_
  · exact or0 _ g1 (by show up _ _ < 256; omega)
  · exact or_low _ _ g1 (by show up _ _ ≤ 65535; omega) g2 k2
  · refine (or_low _ _ (by omega) (by omega) g3 k3).trans ?_
    show (up (v / 2 ^ rs % (rm + 1)) rm * 256 + up (v / 2 ^ gs % (gm + 1)) gm) * 256 + up (v / 2 ^ bs % (bm + 1)) bm = _
    omega

end Go.Proofs.Ytodlpofpeoiedaa

/-
  The contract of format.Quant, and of the two standard formats by the document.
-/
namespace Go.Proofs.Ytodlpofpeoiedaa
open Go.RowKit

set_option maxHeartbeats 1600000 in
set_option maxRecDepth 100000 in
theorem quant_any (f : Fmt) (c : Int) (w : World) (h : validB f = true) :
    Calls Try.prog 28 #[fmtV f, .int .i64 c] w fun e w' => e = .returned (.int .i64 (quantV f c)) ∧ Below w.heap.size w w' := by
  have V1 : Hid (∀ w, Calls Try.prog 39 #[fmtV f, .int .i64 c] w fun e w' => e = .returned (.int .i64 (valV f c)) ∧ Below w.heap.size w w') := fun w => value_any f c w h
  have V2 : Hid (∀ w, Calls Try.prog 40 #[fmtV f, .int .i64 (valV f c)] w fun e w' => e = .returned (.int .i64 (quantV f c)) ∧ Below w.heap.size w w') := fun w => colour_any f _ w h
  generalize valV f c = v at *
  generalize quantV f c = q at *
  have R0 := hide (Blk.new w 23 #[.int .i64 f.bits, .int .i64 f.depth, .bool f.big, .bool f.tru, .int .i64 f.rm, .int .i64 f.gm, .int .i64 f.bm, .int .i64 f.rs, .int .i64 f.gs, .int .i64 f.bs])
  have B0 := (Below.refl w.heap.size w).alloc (Nat.le_refl _) (.cells #[.int .i64 f.bits, .int .i64 f.depth, .bool f.big, .bool f.tru, .int .i64 f.rm, .int .i64 f.gm, .int .i64 f.bm, .int .i64 f.rs, .int .i64 f.gs, .int .i64 f.bs] 23)
  have HB0 := hide B0
  clear B0
  go_enter Try.func28, Try.ntmps28
  go_upto_region 1 with fail
  generalize w.alloc (.cells #[.int .i64 f.bits, .int .i64 f.depth, .bool f.big, .bool f.tru, .int .i64 f.rm, .int .i64 f.gm, .int .i64 f.bm, .int .i64 f.rs, .int .i64 f.gs, .int .i64 f.bs] 23) = w0 at *
  refine plan_region [(0, true), (1, true), (2, true), (3, false), (4, false), (5, true)] (fun w' => Blk w.heap.size 23 #[.int .i64 f.bits, .int .i64 f.depth, .bool f.big, .bool f.tru, .int .i64 f.rm, .int .i64 f.gm, .int .i64 f.bm, .int .i64 f.rs, .int .i64 f.gs, .int .i64 f.bs] w') [] rfl (by kernel_rfl) (fun _ _ d _ _ h => by cases d <;> exact h) ?_
  have R1 := hide (show Blk w.heap.size 23 #[.int .i64 f.bits, .int .i64 f.depth, .bool f.big, .bool f.tru, .int .i64 f.rm, .int .i64 f.gm, .int .i64 f.bm, .int .i64 f.rs, .int .i64 f.gs, .int .i64 f.bs] w0.drew from R0.out)
  have HB2 := hide (show Below w.heap.size w w0.drew from HB0.out.drew)
  clear R0 HB0
  generalize w0.drew = wd at *
  have hS0 := R1.out
  refine plan_v (i := 0) (N := (some 5)) (v := ?v0) (a' := ?b0) rfl rfl hS0 (by rfl) ?hy0 ?ha0 ?_
  case hy0 =>
    intro w' hS'
    have f0 : w'.cell? ⟨w.heap.size, 0, none⟩ = some (.int .i64 f.bits) := hS'.cell 0
    have f1 : w'.cell? ⟨w.heap.size, 1, none⟩ = some (.int .i64 f.depth) := hS'.cell 1
    have f2 : w'.cell? ⟨w.heap.size, 2, none⟩ = some (.bool f.big) := hS'.cell 2
    have f3 : w'.cell? ⟨w.heap.size, 3, none⟩ = some (.bool f.tru) := hS'.cell 3
    have f4 : w'.cell? ⟨w.heap.size, 4, none⟩ = some (.int .i64 f.rm) := hS'.cell 4
    have f5 : w'.cell? ⟨w.heap.size, 5, none⟩ = some (.int .i64 f.gm) := hS'.cell 5
    have f6 : w'.cell? ⟨w.heap.size, 6, none⟩ = some (.int .i64 f.bm) := hS'.cell 6
    have f7 : w'.cell? ⟨w.heap.size, 7, none⟩ = some (.int .i64 f.rs) := hS'.cell 7
    have f8 : w'.cell? ⟨w.heap.size, 8, none⟩ = some (.int .i64 f.gs) := hS'.cell 8
    have f9 : w'.cell? ⟨w.heap.size, 9, none⟩ = some (.int .i64 f.bs) := hS'.cell 9
    go_simp
    with_reducible rfl
  case ha0 =>
    simp only [Act.put, List.setIfInBounds_toArray, List.set_cons_zero, List.set_cons_succ]
    rfl
  refine plan_v (i := 1) (N := (some 6)) (v := ?v1) (a' := ?b1) rfl rfl hS0 (by rfl) ?hy1 ?ha1 ?_
  case hy1 =>
    intro w' hS'
    have f0 : w'.cell? ⟨w.heap.size, 0, none⟩ = some (.int .i64 f.bits) := hS'.cell 0
    have f1 : w'.cell? ⟨w.heap.size, 1, none⟩ = some (.int .i64 f.depth) := hS'.cell 1
    have f2 : w'.cell? ⟨w.heap.size, 2, none⟩ = some (.bool f.big) := hS'.cell 2
    have f3 : w'.cell? ⟨w.heap.size, 3, none⟩ = some (.bool f.tru) := hS'.cell 3
    have f4 : w'.cell? ⟨w.heap.size, 4, none⟩ = some (.int .i64 f.rm) := hS'.cell 4
    have f5 : w'.cell? ⟨w.heap.size, 5, none⟩ = some (.int .i64 f.gm) := hS'.cell 5
    have f6 : w'.cell? ⟨w.heap.size, 6, none⟩ = some (.int .i64 f.bm) := hS'.cell 6
    have f7 : w'.cell? ⟨w.heap.size, 7, none⟩ = some (.int .i64 f.rs) := hS'.cell 7
    have f8 : w'.cell? ⟨w.heap.size, 8, none⟩ = some (.int .i64 f.gs) := hS'.cell 8
    have f9 : w'.cell? ⟨w.heap.size, 9, none⟩ = some (.int .i64 f.bs) := hS'.cell 9
    go_simp
    with_reducible rfl
  case ha1 =>
    simp only [Act.put, List.setIfInBounds_toArray, List.set_cons_zero, List.set_cons_succ]
    rfl
  refine plan_v (i := 2) (N := (some 7)) (v := ?v2) (a' := ?b2) rfl rfl hS0 (by rfl) ?hy2 ?ha2 ?_
  case hy2 =>
    intro w' hS'
    go_simp
    with_reducible rfl
  case ha2 =>
    simp only [Act.put, List.setIfInBounds_toArray, List.set_cons_zero, List.set_cons_succ]
    rfl
  refine plan_e (i := 3) rfl (by rfl) (fun K hK => ?_)
  go_simp
  refine (V1.out _).mono ?_
  rintro e w1 ⟨rfl, hb1⟩
  have hB1 := R1.out.below hb1
  have HB1 := hide (HB2.out.trans (hb1.mono HB2.out.size))
  clear hb1
  refine hK _ _ (fun _ => hB1) ?_
  clear hK K
  refine plan_e (i := 4) rfl (by rfl) (fun K hK => ?_)
  go_simp
  refine (V2.out _).mono ?_
  rintro e w2 ⟨rfl, hb2⟩
  have HB3 := hide (HB1.out.trans (hb2.mono HB1.out.size))
  have hB2 := hB1.below hb2
  clear hb2
  refine hK _ _ (fun _ => hB2) ?_
  clear hK K
  refine plan_v (i := 5) (N := (some 4)) (v := ?v5) (a' := ?b5) rfl rfl hB2 (by rfl) ?hy5 ?ha5 ?_
  case hy5 =>
    intro w' hS'
    go_simp
    with_reducible rfl
  case ha5 =>
    simp only [Act.put, List.setIfInBounds_toArray, List.set_cons_zero, List.set_cons_succ]
    rfl
  refine plan_done ?_
  go_wp2_with fail
  go_ret
  exact ⟨rfl, HB3.out⟩

end Go.Proofs.Ytodlpofpeoiedaa

/-
  The contract of format.put: a number's lowest bytes, by the format's order.
-/
namespace Go.Proofs.Ytodlpofpeoiedaa
open Go.RowKit Go.Sort

theorem leI_snoc (k : Nat) : ∀ n : Int, leI (k + 1) n = leI k n ++ [n / 256 ^ k % 256] := by
  induction k with
  | zero => intro n; simp [leI]
  | succ k ih =>
    intro n
    rw [leI, ih (n / 256), leI]
    have : n / 256 / 256 ^ k = n / 256 ^ (k + 1) := by
      rw [Int.pow_succ, Int.mul_comm, Int.ediv_ediv_of_nonneg (by decide)]
    rw [this]
    rfl

theorem leI_snoc2 (k : Nat) (n : Int) : leI (k + 1) n = leI k n ++ [n / 2 ^ (8 * k) % 256] := by
  rw [leI_snoc, Int.pow_mul]
  rfl

theorem info5 : (Try.prog.info? 5).map (fun i => (i.zero, i.size, i.bytes)) = some (some (.int .u8 0), 1, 1) := by kernel_rfl

/-- The bytes by the format's order. -/
def ordB (big : Bool) (k : Nat) (n : Int) : ByteArray := if big then beB k n else leB k n

section
variable {w : World} {base g cap : Nat} {xs : List Int}
theorem own_cell (h : w.ownsRow base 5 1 (.slice (some ⟨g, 0, none⟩) xs.length cap) xs.length (xs.map encU8)) (j : Nat) (hj : j < xs.length) : w.cell? ⟨g, 0 + j, none⟩ = some (.int .u8 (xs.getD j 0)) := by
  rw [Nat.zero_add, h.cellAt j (by omega), List.getElem?_map, List.getElem?_eq_getElem hj, List.getD_eq_getElem?_getD, List.getElem?_eq_getElem hj]
  rfl

theorem own_conv (h : w.ownsRow base 5 1 (.slice (some ⟨g, 0, none⟩) xs.length cap) xs.length (xs.map encU8)) :
    (convert 114 9 (.slice (some ⟨g, 0, none⟩) xs.length cap)).run Try.prog w = .ok (.string (strOfNums xs)) w :=
  run_convert_bytes_arg (P := Try.prog) w 114 5 Try.underlying114 Try.underlying5 g 0 _ _ xs rfl (fun i hi => own_cell h i hi) 9 Try.underlying9

theorem own_rev (h : w.ownsRow base 5 1 (.slice (some ⟨g, 0, none⟩) xs.length cap) xs.length (xs.map encU8)) (hx : xs.length ≤ 9223372036854775807) :
    Calls Try.prog 140 #[.slice (some ⟨g, 0, none⟩) xs.length cap] w fun e w' => e = .returned (.tuple #[]) ∧ Below base w w' ∧
      (convert 114 9 (.slice (some ⟨g, 0, none⟩) xs.length cap)).run Try.prog w' = .ok (.string (strOfNums xs.reverse)) w' := by
  have hH : Holds encU8 w g 0 xs.toArray := by
    intro j hj
    have hj' : j < xs.length := by simpa using hj
    refine ⟨?_, by rw [Nat.zero_add]; exact h.frozenAt j⟩
    rw [own_cell h j hj', getElem!_pos xs.toArray j hj, List.getD_eq_getElem?_getD, List.getElem?_eq_getElem hj']
    rfl
  have hr := reverse_any g 0 cap xs.toArray w hH (by simpa using hx)
  rw [List.size_toArray] at hr
  refine hr.mono fun e w' ⟨he, n, hw⟩ => ⟨he, ?_, ?_⟩
  · rw [hw]
    exact putRow_below _ _ _ _ _ _ _ (h.lt g rfl).1
  · have hh : Holds encU8 w' g 0 xs.toArray.reverse := by
      rw [hw]
      exact holds_putRow encU8 _ _ 0 _ _ (holds_ahead encU8 _ n _ 0 _ hH) (by simp)
    refine run_convert_bytes_arg (P := Try.prog) w' 114 5 Try.underlying114 Try.underlying5 g 0 _ _ xs.reverse (by rw [List.length_reverse]) ?_ 9 Try.underlying9
    intro i hi
    have := (hh i (by simpa using hi)).1
    rw [this, getElem!_pos _ _ (by simpa using hi), List.getD_eq_getElem?_getD, List.getElem?_eq_getElem (by simpa using hi), Option.getD_some]
    simp
end

set_option maxHeartbeats 1600000 in
set_option maxRecDepth 100000 in
theorem put96_any (f : Fmt) (k : Nat) (n : Int) (w : World) (hk : 1 ≤ k ∧ k ≤ 8) :
    Calls Try.prog 96 #[fmtV f, .int .i64 k, .int .i64 n] w fun e w' => e = .returned (.string (ordB f.big k n)) ∧ Below w.heap.size w w' := by
  obtain ⟨i0, hi, hz0, hz1, hz2⟩ := info_parts info5
  go_enter Try.func96, Try.ntmps96
  go_wp2_with fail
  go_loopw [7, 10] (fun b i wr => ∃ j : Nat, j ≤ k ∧ i = .int .i64 j ∧ wr.ownsRow (w.heap.size + 1) 5 1 b j ((leI j n).map encU8) ∧ wr.cell? ⟨w.heap.size, 2, none⟩ = some (.bool f.big) ∧ Below w.heap.size w wr ∧ w.heap.size < wr.heap.size) (fun _ i _ => k - (intOf i).toNat)
  case atStart =>
    refine ⟨0, by omega, rfl, World.ownsRow_nil _ _ _ _, ?_, (Below.refl _ _).alloc (Nat.le_refl _) _, by simp⟩
    rw [World.cell?_alloc_at _ _ _ _ rfl]
    rfl
  case round =>
    obtain ⟨j, hj, rfl, hown, hbig, hbel, hsz⟩ := hrel
    have HB := hide hbel
    clear hbel
    by_cases hlt : j < k
    · go_wp2_with (at_builtin; refine wpList_append_own _ rfl _ _ 114 rfl (w.heap.size + 1) 5 i0 (.int .u8 0) 1 1 Try.underlying114 hi hz0 hz1 hz2 rfl (by decide) _ _ _ rfl (hown.alloc _) ⟨wr.heap.size, 0, none⟩ 1 1 [.int .u8 (n / 2 ^ (8 * j) % 256)] rfl rfl ?c1 ?c2 ?c3 ?c4 ?c5 ?_)
      case c1 =>
        intro j u hj
        match j, hj with
        | 0, hj => simp at hj; subst hj; simp [Addr.add]
      case c2 => intro u hu; simp at hu; subst hu; rfl
      case c3 => unfold maxLen; omega
      case c4 => omega
      case c5 => simp; omega
      intro v' w1 hown' hgrow _
      have hbig' := hide (hgrow.cell (a := ⟨w.heap.size, 2, none⟩) ((World.cell?_alloc_past _ _ _ hsz).trans hbig) (fun e => absurd (hown.lt w.heap.size e.symm).1 (by omega)))
      have hz' : w.heap.size < w1.heap.size := Nat.lt_of_lt_of_le (by simp; omega) hgrow.size
      have HB' := hide (Below.grown (HB.out.alloc (Nat.le_of_lt hsz) _) hgrow (by simp; omega) (fun k e => by have := (hown.lt _ e).1; omega))
      have HO' := hide hown'
      clear hgrow hown hown' hbig
      go_wp2
      go_roundw
      case rel =>
        refine ⟨j + 1, by omega, by go_num, ?_, hbig'.out, HB'.out, hz'⟩
        rw [leI_snoc2, List.map_append]
        exact HO'.out
      case measure => simp [intOf]; omega
    · obtain rfl : j = k := by omega
      obtain ⟨g, cap, cur, rfl, hbg, _⟩ := hown.2.resolve_left (by rintro ⟨_, h⟩; omega)
      have hl := leI_length j n
      have hconv : (convert 114 9 (.slice (some ⟨g, 0, none⟩) j cap)).run Try.prog wr = .ok (.string (leB j n)) wr := by
        have := own_conv (w := wr) (base := w.heap.size + 1) (g := g) (cap := cap) (xs := leI j n) (by rw [hl]; exact hown)
        rw [hl] at this
        exact this
      have hrev : Calls Try.prog 140 #[.slice (some ⟨g, 0, none⟩) j cap] wr fun e w' => e = .returned (.tuple #[]) ∧ Below (w.heap.size + 1) wr w' ∧ (convert 114 9 (.slice (some ⟨g, 0, none⟩) j cap)).run Try.prog w' = .ok (.string (beB j n)) w' := by
        have := own_rev (w := wr) (base := w.heap.size + 1) (g := g) (cap := cap) (xs := leI j n) (by rw [hl]; exact hown) (by omega)
        rw [hl] at this
        exact this
      have HR := hide hrev
      clear hrev hown hl
      cases hb : f.big with
      | false =>
        rw [hb] at hbig
        go_wp2_with fail
        go_ret
        exact ⟨by rw [hb]; rfl, HB.out⟩
      | true =>
        rw [hb] at hbig
        clear hconv
        go_wp2_with fail
        refine HR.out.mono ?_
        rintro e w1 ⟨rfl, hb1, hconv⟩
        have HB1 := hide (HB.out.trans (hb1.mono (Nat.le_succ _)))
        clear hb1
        go_wp2_with fail
        go_ret
        exact ⟨by rw [hb]; rfl, HB1.out⟩

end Go.Proofs.Ytodlpofpeoiedaa

/-
  The contract of format.get: the number of bytes, by the format's order.
-/
namespace Go.Proofs.Ytodlpofpeoiedaa
open Go.RowKit Go.Sort

/-- Bytes by the format's order, the greatest one first. -/
def ordL (big : Bool) (l : List UInt8) : List UInt8 := if big then l else l.reverse
def getE (f : Fmt) (k : Nat) (s : ByteArray) : Int := if validB f then (if s.size < k then 2 else 0) else 130
def getV (f : Fmt) (k : Nat) (s : ByteArray) : Int := if getE f k s = 0 then beV (ordL f.big (s.data.toList.take k)) else 0

theorem ordL_length (big : Bool) (l : List UInt8) : (ordL big l).length = l.length := by
  unfold ordL
  split <;> simp

theorem or_low2 (x y : Int) (h0 : 0 ≤ x) (h1 : x ≤ 4294967295) (h2 : 0 ≤ y) (h3 : y ≤ 255) : bits .or .i64 (x * 256) y = x * 256 + y := by
  have hc : bits .or .i64 (x * 256) y = bits .or .i64 y (x * 256) := by simp only [bits, BitVec.or_comm]
  rw [hc]
  obtain ⟨a, rfl⟩ := Int.eq_ofNat_of_zero_le h0
  obtain ⟨b, rfl⟩ := Int.eq_ofNat_of_zero_le h2
  have h := or_nat 8 b a (by omega) (by omega) (by omega)
  have e : ((a * 2 ^ 8 : Nat) : Int) = (a : Int) * 256 := by rw [Int.natCast_mul]; rfl
  rw [e] at h
  rw [h]
  omega

theorem beV_step (m : List UInt8) (j : Nat) (h : j < m.length) : beV (m.take (j + 1)) = beV (m.take j) * 256 + (m[j].toNat : Int) := by
  rw [List.take_succ_eq_append_getElem h, beV_snoc]

theorem beV_small (m : List UInt8) (j : Nat) (h : j ≤ 4) : 0 ≤ beV (m.take j) ∧ beV (m.take j) ≤ 4294967295 := by
  have hb := beV_bd (m.take j)
  have : (m.take j).length ≤ 4 := by rw [List.length_take]; omega
  have h4 : (m.take j).length = 0 ∨ (m.take j).length = 1 ∨ (m.take j).length = 2 ∨ (m.take j).length = 3 ∨ (m.take j).length = 4 := by omega
  rcases h4 with h | h | h | h | h <;> rw [h] at hb <;> omega

theorem idx_str (s : ByteArray) (i : Nat) (h : i < s.size) (w : World) : (Instr.index 9 (.string s) (.int .i64 (i : Int))).run Try.prog w = .ok (.int .u8 ((s[i]'h).toNat : Int)) w := by
  have h' : (i : Int) < (s.size : Int) := by omega
  simp [go_sem, h]

set_option maxHeartbeats 1600000 in
set_option maxRecDepth 100000 in
theorem get97_walk (f : Fmt) (k : Nat) (s : ByteArray) (m : List UInt8) (w : World) (hk : k ≤ 4) (hs : k ≤ s.size) (hm : m.length = k)
    (hb : ∀ j (h : j < k), Hid (∀ w, (Instr.index 9 (.string s) (.int .i64 (if f.big = true then (j : Int) else (k : Int) - 1 - j))).run Try.prog w = .ok (.int .u8 ((m[j]'(by omega)).toNat : Int)) w))
    (K17 : Hid (∀ w, Calls Try.prog 17 #[fmtV f] w fun e w' => e = .returned (.bool true) ∧ Below w.heap.size w w')) :
    Calls Try.prog 97 #[fmtV f, .int .i64 k, .string s] w fun e w' => e = .returned (.tuple #[.int .i64 (beV m), .int .i64 0]) ∧ Below w.heap.size w w' := by
  have hs' : (k : Int) ≤ s.size := by omega
  go_enter Try.func97, Try.ntmps97
  go_wp2_with fail
  refine (K17.out _).mono ?_
  rintro e w1 ⟨rfl, hb1⟩
  have hz1 : w.heap.size < w1.heap.size := Nat.lt_of_lt_of_le (by simp) hb1.size
  have hbig1 : w1.cell? ⟨w.heap.size, 2, none⟩ = some (.bool f.big) := by
    rw [hb1.cell (p := ⟨w.heap.size, 2, none⟩) (by simp), World.cell?_alloc_at _ _ _ _ rfl]
    rfl
  have HB := hide (((Below.refl _ _).alloc (Nat.le_refl _) _).trans (hb1.mono (by simp)))
  clear hb1
  go_wp2_with fail
  go_loopw [8, 21] (fun n i wr => ∃ j : Nat, j ≤ k ∧ i = .int .i64 j ∧ n = .int .i64 (beV (m.take j)) ∧ wr = w1) (fun _ i _ => k - (intOf i).toNat)
  case atStart => exact ⟨0, by omega, rfl, rfl, rfl⟩
  case round =>
    obtain ⟨j, hj, rfl, rfl, rfl⟩ := hrel
    by_cases hlt : j < k
    · have hx := (hb j hlt).out
      have hst := hide (beV_step m j (by omega))
      have hsm := beV_small m j (by omega)
      have hc1 : 0 ≤ ((m[j]'(by omega)).toNat : Int) := by omega
      have hc2 : ((m[j]'(by omega)).toNat : Int) ≤ 255 := by have := (m[j]'(by omega)).toNat_lt; omega
      have hor := or_low2 (beV (m.take j)) ((m[j]'(by omega)).toNat : Int) hsm.1 hsm.2 hc1 hc2
      rw [← hst.out] at hor
      generalize beV (m.take j) = n at *
      generalize hn1 : beV (m.take (j + 1)) = n' at *
      have HN := hide hn1
      clear hn1
      generalize ((m[j]'(by omega)).toNat : Int) = c at *
      clear hb
      cases hb : f.big with
      | true =>
        rw [hb] at hx hbig1
        simp only [if_true] at hx
        go_wp2_with fail
        go_roundw
        case rel => exact ⟨j + 1, by omega, by go_num, by rw [HN.out], trivial⟩
        case measure => simp [intOf]; omega
      | false =>
        rw [hb] at hx hbig1
        simp only [Bool.false_eq_true, if_false] at hx
        go_wp2_with fail
        go_roundw
        case rel => exact ⟨j + 1, by omega, by go_num, by rw [HN.out], trivial⟩
        case measure => simp [intOf]; omega
    · obtain rfl : j = k := by omega
      clear hb
      have : m.take j = m := by rw [← hm, List.take_length]
      rw [this]
      go_wp2_with fail
      go_ret2
      exact ⟨rfl, HB.out⟩

set_option maxHeartbeats 1600000 in
set_option maxRecDepth 100000 in
theorem get97_no (f : Fmt) (k : Nat) (s : ByteArray) (w : World) (K17 : Hid (∀ w, Calls Try.prog 17 #[fmtV f] w fun e w' => e = .returned (.bool false) ∧ Below w.heap.size w w')) :
    Calls Try.prog 97 #[fmtV f, .int .i64 k, .string s] w fun e w' => e = .returned (.tuple #[.int .i64 0, .int .i64 130]) ∧ Below w.heap.size w w' := by
  go_enter Try.func97, Try.ntmps97
  go_wp2_with fail
  refine (K17.out _).mono ?_
  rintro e w1 ⟨rfl, hb1⟩
  have HB := hide (((Below.refl _ _).alloc (Nat.le_refl _) _).trans (hb1.mono (by simp)))
  clear hb1
  go_wp2_with fail
  go_ret2
  exact ⟨rfl, HB.out⟩

set_option maxHeartbeats 1600000 in
set_option maxRecDepth 100000 in
theorem get97_short (f : Fmt) (k : Nat) (s : ByteArray) (w : World) (hs : s.size < k) (K17 : Hid (∀ w, Calls Try.prog 17 #[fmtV f] w fun e w' => e = .returned (.bool true) ∧ Below w.heap.size w w')) :
    Calls Try.prog 97 #[fmtV f, .int .i64 k, .string s] w fun e w' => e = .returned (.tuple #[.int .i64 0, .int .i64 2]) ∧ Below w.heap.size w w' := by
  have hs' : (s.size : Int) < k := by omega
  go_enter Try.func97, Try.ntmps97
  go_wp2_with fail
  refine (K17.out _).mono ?_
  rintro e w1 ⟨rfl, hb1⟩
  have HB := hide (((Below.refl _ _).alloc (Nat.le_refl _) _).trans (hb1.mono (by simp)))
  clear hb1
  go_wp2_with fail
  go_ret2
  exact ⟨rfl, HB.out⟩

/-- A format's shifts are numbers of the machine. -/
def Fmt.fit (f : Fmt) : Prop := f.rs ≤ 9223372036854775807 ∧ f.gs ≤ 9223372036854775807 ∧ f.bs ≤ 9223372036854775807

theorem valid_fit (f : Fmt) (w : World) (h : f.fit) : Calls Try.prog 17 #[fmtV f] w fun e w' => e = .returned (.bool (validB f)) ∧ Below w.heap.size w w' := valid_any f w h.1 h.2.1 h.2.2

theorem toList_at (s : ByteArray) (i : Nat) (h : i < s.size) (k : Nat) (h' : i < (s.data.toList.take k).length) : (s.data.toList.take k)[i]'h' = s[i]'h := by
  rw [List.getElem_take]
  rfl

theorem get97_any (f : Fmt) (k : Nat) (s : ByteArray) (w : World) (hk : k ≤ 4) (hf : f.fit) :
    Calls Try.prog 97 #[fmtV f, .int .i64 k, .string s] w fun e w' => e = .returned (.tuple #[.int .i64 (getV f k s), .int .i64 (getE f k s)]) ∧ Below w.heap.size w w' := by
  have K := fun w => valid_fit f w hf
  unfold getV getE
  cases hv : validB f with
  | false =>
    rw [hv] at K
    exact get97_no f k s w K
  | true =>
    rw [hv] at K
    by_cases hs : s.size < k
    · simp only [if_true, if_pos hs]
      exact get97_short f k s w hs K
    · simp only [if_true, if_neg hs]
      have hl : (s.data.toList.take k).length = k := by
        rw [List.length_take]
        have : s.data.toList.length = s.size := by simp
        omega
      refine get97_walk f k s _ w hk (by omega) ((ordL_length _ _).trans hl) (fun j hj => hide fun w => ?_) K
      cases hb : f.big with
      | true =>
        have := idx_str s j (by omega) w
        simp only [if_true, ordL]
        rw [toList_at s j (by omega) k]
        exact this
      | false =>
        have := idx_str s (k - 1 - j) (by omega) w
        simp only [Bool.false_eq_true, if_false, ordL, List.getElem_reverse, hl]
        rw [toList_at s (k - 1 - j) (by omega) k]
        have e : ((k - 1 - j : Nat) : Int) = (k : Int) - 1 - j := by omega
        rw [← e]
        exact this

end Go.Proofs.Ytodlpofpeoiedaa

/-
  The contracts of format.Size, Put, Get.
-/
namespace Go.Proofs.Ytodlpofpeoiedaa
open Go.RowKit Go.Sort

set_option maxHeartbeats 1600000 in
set_option maxRecDepth 100000 in
theorem reverse_nil (w : World) : Calls Try.prog 140 #[.slice none 0 0] w fun e w' => e = .returned (.tuple #[]) ∧ w = w' := by
  go_enter Try.func140, Try.ntmps140
  go_wp2_with fail
  refine wp_loop_rounds 1 ?_
  rw [rounds_succ]
  go_wp2_with fail
  go_end0
  exact ⟨rfl, rfl⟩

set_option maxHeartbeats 1600000 in
set_option maxRecDepth 100000 in
theorem put96_zero (f : Fmt) (n : Int) (w : World) :
    Calls Try.prog 96 #[fmtV f, .int .i64 0, .int .i64 n] w fun e w' => e = .returned (.string ⟨#[]⟩) ∧ Below w.heap.size w w' := by
  have hconv : ∀ w, (convert 114 9 (.slice none 0 0)).run Try.prog w = .ok (.string ⟨#[]⟩) w := fun _ => by kernel_rfl
  have hbig : (w.alloc (.cells #[.int .i64 f.bits, .int .i64 f.depth, .bool f.big, .bool f.tru, .int .i64 f.rm, .int .i64 f.gm, .int .i64 f.bm, .int .i64 f.rs, .int .i64 f.gs, .int .i64 f.bs] 23)).cell? ⟨w.heap.size, 2, none⟩ = some (.bool f.big) := by
    rw [World.cell?_alloc_at _ _ _ _ rfl]
    rfl
  have HB := hide ((Below.refl w.heap.size w).alloc (Nat.le_refl _) (.cells #[.int .i64 f.bits, .int .i64 f.depth, .bool f.big, .bool f.tru, .int .i64 f.rm, .int .i64 f.gm, .int .i64 f.bm, .int .i64 f.rs, .int .i64 f.gs, .int .i64 f.bs] 23))
  go_enter Try.func96, Try.ntmps96
  go_wp2_with fail
  refine wp_loop_rounds 1 ?_
  rw [rounds_succ]
  generalize w.alloc (.cells #[.int .i64 f.bits, .int .i64 f.depth, .bool f.big, .bool f.tru, .int .i64 f.rm, .int .i64 f.gm, .int .i64 f.bm, .int .i64 f.rs, .int .i64 f.gs, .int .i64 f.bs] 23) = w1 at *
  cases hb : f.big with
  | false =>
    rw [hb] at hbig
    go_wp2_with fail
    go_ret
    exact ⟨rfl, HB.out⟩
  | true =>
    rw [hb] at hbig
    go_wp2_with fail
    refine (reverse_nil _).mono ?_
    rintro e w2 ⟨rfl, rfl⟩
    go_wp2_with fail
    go_ret
    exact ⟨rfl, HB.out⟩

/-- How many bytes a value has. -/
def sizeN (f : Fmt) : Nat := if validB f then (f.bits / 8).toNat else 0

theorem size_valid {f : Fmt} (h : validB f = true) : (sizeN f : Int) = f.bits / 8 ∧ (sizeN f = 1 ∨ sizeN f = 2 ∨ sizeN f = 4) := by
  obtain ⟨hb, _⟩ := valid_parts h
  unfold sizeN
  rw [if_pos h]
  omega

set_option maxHeartbeats 1600000 in
set_option maxRecDepth 100000 in
theorem size_walk (f : Fmt) (V : Bool) (r : Int) (w : World) (hr : Hid ((if V = true then f.bits / 8 else 0) = r)) (K17 : Hid (∀ w, Calls Try.prog 17 #[fmtV f] w fun e w' => e = .returned (.bool V) ∧ Below w.heap.size w w')) (hb : V = true → 0 ≤ f.bits ∧ f.bits ≤ 32) :
    Calls Try.prog 27 #[fmtV f] w fun e w' => e = .returned (.int .i64 r) ∧ Below w.heap.size w w' := by
  go_enter Try.func27, Try.ntmps27
  go_wp2_with fail
  refine (K17.out _).mono ?_
  rintro e w1 ⟨rfl, hb1⟩
  have hf0 : w1.cell? ⟨w.heap.size, 0, none⟩ = some (.int .i64 f.bits) := by
    rw [hb1.cell (p := ⟨w.heap.size, 0, none⟩) (by simp), World.cell?_alloc_at _ _ _ _ rfl]
    rfl
  have HB := hide (((Below.refl _ _).alloc (Nat.le_refl _) _).trans (hb1.mono (by simp)))
  clear hb1
  cases V with
  | false =>
    go_wp2_with fail
    go_ret
    exact ⟨by rw [← hr.out]; rfl, HB.out⟩
  | true =>
    obtain ⟨q1, q2⟩ := hb rfl
    go_wp2_with fail
    go_ret
    exact ⟨by rw [← hr.out]; rfl, HB.out⟩

theorem size_any (f : Fmt) (w : World) (hf : f.fit) : Calls Try.prog 27 #[fmtV f] w fun e w' => e = .returned (.int .i64 (sizeN f)) ∧ Below w.heap.size w w' := by
  refine size_walk f (validB f) _ w ?_ (fun w => valid_fit f w hf) fun h => ?_
  · cases h : validB f with
    | false => simp only [sizeN, h]; rfl
    | true =>
      rw [(size_valid h).1]
      rfl
  · obtain ⟨hb, _⟩ := valid_parts h
    omega

/-- A value's bytes. -/
def putV (f : Fmt) (n : Int) : ByteArray := if validB f then ordB f.big (sizeN f) n else ⟨#[]⟩

theorem put96_all (f : Fmt) (k : Nat) (n : Int) (w : World) (hk : k ≤ 8) : Calls Try.prog 96 #[fmtV f, .int .i64 k, .int .i64 n] w fun e w' => e = .returned (.string (ordB f.big k n)) ∧ Below w.heap.size w w' := by
  by_cases h : k = 0
  · subst h
    have e : ordB f.big 0 n = ⟨#[]⟩ := by unfold ordB; cases f.big <;> rfl
    rw [e]
    exact put96_zero f n w
  · exact put96_any f k n w (by omega)

theorem size_le (f : Fmt) : sizeN f ≤ 4 := by
  cases h : validB f with
  | true => have := (size_valid h).2; omega
  | false => simp [sizeN, h]

theorem putV_eq (f : Fmt) (n : Int) : putV f n = ordB f.big (sizeN f) n := by
  unfold putV
  cases h : validB f with
  | true => rfl
  | false =>
    have : sizeN f = 0 := by simp [sizeN, h]
    rw [this]
    unfold ordB
    cases f.big <;> rfl

set_option maxHeartbeats 1600000 in
set_option maxRecDepth 100000 in
theorem put36_walk (f : Fmt) (n : Int) (k : Nat) (T : ByteArray) (w : World) (K27 : Hid (∀ w, Calls Try.prog 27 #[fmtV f] w fun e w' => e = .returned (.int .i64 k) ∧ Below w.heap.size w w')) (K96 : Hid (∀ w, Calls Try.prog 96 #[fmtV f, .int .i64 k, .int .i64 n] w fun e w' => e = .returned (.string T) ∧ Below w.heap.size w w')) :
    Calls Try.prog 36 #[fmtV f, .int .i64 n] w fun e w' => e = .returned (.string T) ∧ Below w.heap.size w w' := by
  have R0 := hide (Blk.new w 23 #[.int .i64 f.bits, .int .i64 f.depth, .bool f.big, .bool f.tru, .int .i64 f.rm, .int .i64 f.gm, .int .i64 f.bm, .int .i64 f.rs, .int .i64 f.gs, .int .i64 f.bs])
  have D0 := hide ((Below.refl w.heap.size w).alloc (Nat.le_refl _) (.cells #[.int .i64 f.bits, .int .i64 f.depth, .bool f.big, .bool f.tru, .int .i64 f.rm, .int .i64 f.gm, .int .i64 f.bm, .int .i64 f.rs, .int .i64 f.gs, .int .i64 f.bs] 23))
  go_enter Try.func36, Try.ntmps36
  go_upto_region 1 with fail
  have hS0 := hide (show Blk w.heap.size 23 #[.int .i64 f.bits, .int .i64 f.depth, .bool f.big, .bool f.tru, .int .i64 f.rm, .int .i64 f.gm, .int .i64 f.bm, .int .i64 f.rs, .int .i64 f.gs, .int .i64 f.bs] (w.alloc (.cells #[.int .i64 f.bits, .int .i64 f.depth, .bool f.big, .bool f.tru, .int .i64 f.rm, .int .i64 f.gm, .int .i64 f.bm, .int .i64 f.rs, .int .i64 f.gs, .int .i64 f.bs] 23)).drew from R0.out)
  have B0 := hide (show Below w.heap.size w (w.alloc (.cells #[.int .i64 f.bits, .int .i64 f.depth, .bool f.big, .bool f.tru, .int .i64 f.rm, .int .i64 f.gm, .int .i64 f.bm, .int .i64 f.rs, .int .i64 f.gs, .int .i64 f.bs] 23)).drew from D0.out.drew)
  clear R0 D0
  refine plan_region [(0, true), (1, true), (3, true), (2, false), (4, false), (5, true)] (fun w' => Blk w.heap.size 23 #[.int .i64 f.bits, .int .i64 f.depth, .bool f.big, .bool f.tru, .int .i64 f.rm, .int .i64 f.gm, .int .i64 f.bm, .int .i64 f.rs, .int .i64 f.gs, .int .i64 f.bs] w') [] rfl (by kernel_rfl) (fun _ _ d _ _ h => by cases d <;> exact h) ?_
  generalize (w.alloc (.cells #[.int .i64 f.bits, .int .i64 f.depth, .bool f.big, .bool f.tru, .int .i64 f.rm, .int .i64 f.gm, .int .i64 f.bm, .int .i64 f.rs, .int .i64 f.gs, .int .i64 f.bs] 23)).drew = w0 at *
  refine plan_v (i := 0) (N := (some 5)) (v := ?v0) (a' := ?b0) rfl rfl hS0.out (by rfl) ?hy0 ?ha0 ?_
  case hy0 =>
    intro w' hS'
    have f0 : w'.cell? ⟨w.heap.size, 0, none⟩ = some (.int .i64 f.bits) := hS'.cell 0
    have f1 : w'.cell? ⟨w.heap.size, 1, none⟩ = some (.int .i64 f.depth) := hS'.cell 1
    have f2 : w'.cell? ⟨w.heap.size, 2, none⟩ = some (.bool f.big) := hS'.cell 2
    have f3 : w'.cell? ⟨w.heap.size, 3, none⟩ = some (.bool f.tru) := hS'.cell 3
    have f4 : w'.cell? ⟨w.heap.size, 4, none⟩ = some (.int .i64 f.rm) := hS'.cell 4
    have f5 : w'.cell? ⟨w.heap.size, 5, none⟩ = some (.int .i64 f.gm) := hS'.cell 5
    have f6 : w'.cell? ⟨w.heap.size, 6, none⟩ = some (.int .i64 f.bm) := hS'.cell 6
    have f7 : w'.cell? ⟨w.heap.size, 7, none⟩ = some (.int .i64 f.rs) := hS'.cell 7
    have f8 : w'.cell? ⟨w.heap.size, 8, none⟩ = some (.int .i64 f.gs) := hS'.cell 8
    have f9 : w'.cell? ⟨w.heap.size, 9, none⟩ = some (.int .i64 f.bs) := hS'.cell 9
    go_simp
    with_reducible rfl
  case ha0 =>
    simp only [Act.put, List.setIfInBounds_toArray, List.set_cons_zero, List.set_cons_succ]
    rfl
  refine plan_v (i := 1) (N := (some 6)) (v := ?v1) (a' := ?b1) rfl rfl hS0.out (by rfl) ?hy1 ?ha1 ?_
  case hy1 =>
    intro w' hS'
    have f0 : w'.cell? ⟨w.heap.size, 0, none⟩ = some (.int .i64 f.bits) := hS'.cell 0
    have f1 : w'.cell? ⟨w.heap.size, 1, none⟩ = some (.int .i64 f.depth) := hS'.cell 1
    have f2 : w'.cell? ⟨w.heap.size, 2, none⟩ = some (.bool f.big) := hS'.cell 2
    have f3 : w'.cell? ⟨w.heap.size, 3, none⟩ = some (.bool f.tru) := hS'.cell 3
    have f4 : w'.cell? ⟨w.heap.size, 4, none⟩ = some (.int .i64 f.rm) := hS'.cell 4
    have f5 : w'.cell? ⟨w.heap.size, 5, none⟩ = some (.int .i64 f.gm) := hS'.cell 5
    have f6 : w'.cell? ⟨w.heap.size, 6, none⟩ = some (.int .i64 f.bm) := hS'.cell 6
    have f7 : w'.cell? ⟨w.heap.size, 7, none⟩ = some (.int .i64 f.rs) := hS'.cell 7
    have f8 : w'.cell? ⟨w.heap.size, 8, none⟩ = some (.int .i64 f.gs) := hS'.cell 8
    have f9 : w'.cell? ⟨w.heap.size, 9, none⟩ = some (.int .i64 f.bs) := hS'.cell 9
    go_simp
    with_reducible rfl
  case ha1 =>
    simp only [Act.put, List.setIfInBounds_toArray, List.set_cons_zero, List.set_cons_succ]
    rfl
  refine plan_v (i := 3) (N := (some 8)) (v := ?v3) (a' := ?b3) rfl rfl hS0.out (by rfl) ?hy3 ?ha3 ?_
  case hy3 =>
    intro w' hS'
    go_simp
    with_reducible rfl
  case ha3 =>
    simp only [Act.put, List.setIfInBounds_toArray, List.set_cons_zero, List.set_cons_succ]
    rfl
  refine plan_e (i := 2) rfl (by rfl) (fun K hK => ?_)
  go_simp
  refine (K27.out _).mono ?_
  rintro e w1 ⟨rfl, hb⟩
  have hS1 := hide (hS0.out.below hb)
  have B1 := hide (B0.out.trans (hb.mono B0.out.size))
  clear hb
  refine hK _ _ (fun _ => hS1.out) ?_
  clear hK K
  refine plan_e (i := 4) rfl (by rfl) (fun K hK => ?_)
  go_simp
  refine (K96.out _).mono ?_
  rintro e w2 ⟨rfl, hb⟩
  have hS2 := hide (hS1.out.below hb)
  have B2 := hide (B1.out.trans (hb.mono B1.out.size))
  clear hb
  refine hK _ _ (fun _ => hS2.out) ?_
  clear hK K
  refine plan_v (i := 5) (N := (some 4)) (v := ?v5) (a' := ?b5) rfl rfl hS2.out (by rfl) ?hy5 ?ha5 ?_
  case hy5 =>
    intro w' hS'
    go_simp
    with_reducible rfl
  case ha5 =>
    simp only [Act.put, List.setIfInBounds_toArray, List.set_cons_zero, List.set_cons_succ]
    rfl
  refine plan_done ?_
  go_wp2_with fail
  go_ret
  exact ⟨rfl, B2.out⟩

theorem put36_any (f : Fmt) (n : Int) (w : World) (hf : f.fit) : Calls Try.prog 36 #[fmtV f, .int .i64 n] w fun e w' => e = .returned (.string (putV f n)) ∧ Below w.heap.size w w' := by
  rw [putV_eq]
  exact put36_walk f n (sizeN f) _ w (fun w => size_any f w hf) (fun w => put96_all f (sizeN f) n w (Nat.le_trans (size_le f) (by decide)))

set_option maxHeartbeats 1600000 in
set_option maxRecDepth 100000 in
theorem get41_walk (f : Fmt) (s : ByteArray) (k : Nat) (x y : Int) (w : World) (K27 : Hid (∀ w, Calls Try.prog 27 #[fmtV f] w fun e w' => e = .returned (.int .i64 k) ∧ Below w.heap.size w w')) (K97 : Hid (∀ w, Calls Try.prog 97 #[fmtV f, .int .i64 k, .string s] w fun e w' => e = .returned (.tuple #[.int .i64 x, .int .i64 y]) ∧ Below w.heap.size w w')) :
    Calls Try.prog 41 #[fmtV f, .string s] w fun e w' => e = .returned (.tuple #[.int .i64 x, .int .i64 y]) ∧ Below w.heap.size w w' := by
  have R0 := hide (Blk.new w 23 #[.int .i64 f.bits, .int .i64 f.depth, .bool f.big, .bool f.tru, .int .i64 f.rm, .int .i64 f.gm, .int .i64 f.bm, .int .i64 f.rs, .int .i64 f.gs, .int .i64 f.bs])
  have D0 := hide ((Below.refl w.heap.size w).alloc (Nat.le_refl _) (.cells #[.int .i64 f.bits, .int .i64 f.depth, .bool f.big, .bool f.tru, .int .i64 f.rm, .int .i64 f.gm, .int .i64 f.bm, .int .i64 f.rs, .int .i64 f.gs, .int .i64 f.bs] 23))
  go_enter Try.func41, Try.ntmps41
  go_upto_region 1 with fail
  have hS0 := hide (show Blk w.heap.size 23 #[.int .i64 f.bits, .int .i64 f.depth, .bool f.big, .bool f.tru, .int .i64 f.rm, .int .i64 f.gm, .int .i64 f.bm, .int .i64 f.rs, .int .i64 f.gs, .int .i64 f.bs] (w.alloc (.cells #[.int .i64 f.bits, .int .i64 f.depth, .bool f.big, .bool f.tru, .int .i64 f.rm, .int .i64 f.gm, .int .i64 f.bm, .int .i64 f.rs, .int .i64 f.gs, .int .i64 f.bs] 23)).drew from R0.out)
  have B0 := hide (show Below w.heap.size w (w.alloc (.cells #[.int .i64 f.bits, .int .i64 f.depth, .bool f.big, .bool f.tru, .int .i64 f.rm, .int .i64 f.gm, .int .i64 f.bm, .int .i64 f.rs, .int .i64 f.gs, .int .i64 f.bs] 23)).drew from D0.out.drew)
  clear R0 D0
  refine plan_region [(0, true), (1, true), (3, true), (2, false), (4, false), (5, true), (6, true), (7, true), (8, true)] (fun w' => Blk w.heap.size 23 #[.int .i64 f.bits, .int .i64 f.depth, .bool f.big, .bool f.tru, .int .i64 f.rm, .int .i64 f.gm, .int .i64 f.bm, .int .i64 f.rs, .int .i64 f.gs, .int .i64 f.bs] w') [] rfl (by kernel_rfl) (fun _ _ d _ _ h => by cases d <;> exact h) ?_
  generalize (w.alloc (.cells #[.int .i64 f.bits, .int .i64 f.depth, .bool f.big, .bool f.tru, .int .i64 f.rm, .int .i64 f.gm, .int .i64 f.bm, .int .i64 f.rs, .int .i64 f.gs, .int .i64 f.bs] 23)).drew = w0 at *
  refine plan_v (i := 0) (N := (some 6)) (v := ?v0) (a' := ?b0) rfl rfl hS0.out (by rfl) ?hy0 ?ha0 ?_
  case hy0 =>
    intro w' hS'
    have f0 : w'.cell? ⟨w.heap.size, 0, none⟩ = some (.int .i64 f.bits) := hS'.cell 0
    have f1 : w'.cell? ⟨w.heap.size, 1, none⟩ = some (.int .i64 f.depth) := hS'.cell 1
    have f2 : w'.cell? ⟨w.heap.size, 2, none⟩ = some (.bool f.big) := hS'.cell 2
    have f3 : w'.cell? ⟨w.heap.size, 3, none⟩ = some (.bool f.tru) := hS'.cell 3
    have f4 : w'.cell? ⟨w.heap.size, 4, none⟩ = some (.int .i64 f.rm) := hS'.cell 4
    have f5 : w'.cell? ⟨w.heap.size, 5, none⟩ = some (.int .i64 f.gm) := hS'.cell 5
    have f6 : w'.cell? ⟨w.heap.size, 6, none⟩ = some (.int .i64 f.bm) := hS'.cell 6
    have f7 : w'.cell? ⟨w.heap.size, 7, none⟩ = some (.int .i64 f.rs) := hS'.cell 7
    have f8 : w'.cell? ⟨w.heap.size, 8, none⟩ = some (.int .i64 f.gs) := hS'.cell 8
    have f9 : w'.cell? ⟨w.heap.size, 9, none⟩ = some (.int .i64 f.bs) := hS'.cell 9
    go_simp
    with_reducible rfl
  case ha0 =>
    simp only [Act.put, List.setIfInBounds_toArray, List.set_cons_zero, List.set_cons_succ]
    rfl
  refine plan_v (i := 1) (N := (some 7)) (v := ?v1) (a' := ?b1) rfl rfl hS0.out (by rfl) ?hy1 ?ha1 ?_
  case hy1 =>
    intro w' hS'
    have f0 : w'.cell? ⟨w.heap.size, 0, none⟩ = some (.int .i64 f.bits) := hS'.cell 0
    have f1 : w'.cell? ⟨w.heap.size, 1, none⟩ = some (.int .i64 f.depth) := hS'.cell 1
    have f2 : w'.cell? ⟨w.heap.size, 2, none⟩ = some (.bool f.big) := hS'.cell 2
    have f3 : w'.cell? ⟨w.heap.size, 3, none⟩ = some (.bool f.tru) := hS'.cell 3
    have f4 : w'.cell? ⟨w.heap.size, 4, none⟩ = some (.int .i64 f.rm) := hS'.cell 4
    have f5 : w'.cell? ⟨w.heap.size, 5, none⟩ = some (.int .i64 f.gm) := hS'.cell 5
    have f6 : w'.cell? ⟨w.heap.size, 6, none⟩ = some (.int .i64 f.bm) := hS'.cell 6
    have f7 : w'.cell? ⟨w.heap.size, 7, none⟩ = some (.int .i64 f.rs) := hS'.cell 7
    have f8 : w'.cell? ⟨w.heap.size, 8, none⟩ = some (.int .i64 f.gs) := hS'.cell 8
    have f9 : w'.cell? ⟨w.heap.size, 9, none⟩ = some (.int .i64 f.bs) := hS'.cell 9
    go_simp
    with_reducible rfl
  case ha1 =>
    simp only [Act.put, List.setIfInBounds_toArray, List.set_cons_zero, List.set_cons_succ]
    rfl
  refine plan_v (i := 3) (N := (some 9)) (v := ?v3) (a' := ?b3) rfl rfl hS0.out (by rfl) ?hy3 ?ha3 ?_
  case hy3 =>
    intro w' hS'
    go_simp
    with_reducible rfl
  case ha3 =>
    simp only [Act.put, List.setIfInBounds_toArray, List.set_cons_zero, List.set_cons_succ]
    rfl
  refine plan_e (i := 2) rfl (by rfl) (fun K hK => ?_)
  go_simp
  refine (K27.out _).mono ?_
  rintro e w1 ⟨rfl, hb⟩
  have hS1 := hide (hS0.out.below hb)
  have B1 := hide (B0.out.trans (hb.mono B0.out.size))
  clear hb
  refine hK _ _ (fun _ => hS1.out) ?_
  clear hK K
  refine plan_e (i := 4) rfl (by rfl) (fun K hK => ?_)
  go_simp
  refine (K97.out _).mono ?_
  rintro e w2 ⟨rfl, hb⟩
  have hS2 := hide (hS1.out.below hb)
  have B2 := hide (B1.out.trans (hb.mono B1.out.size))
  clear hb
  refine hK _ _ (fun _ => hS2.out) ?_
  clear hK K
  refine plan_v (i := 5) (N := (some 11)) (v := ?v5) (a' := ?b5) rfl rfl hS2.out (by rfl) ?hy5 ?ha5 ?_
  case hy5 =>
    intro w' hS'
    go_simp
    with_reducible rfl
  case ha5 =>
    simp only [Act.put, List.setIfInBounds_toArray, List.set_cons_zero, List.set_cons_succ]
    rfl
  refine plan_v (i := 6) (N := (some 12)) (v := ?v6) (a' := ?b6) rfl rfl hS2.out (by rfl) ?hy6 ?ha6 ?_
  case hy6 =>
    intro w' hS'
    go_simp
    with_reducible rfl
  case ha6 =>
    simp only [Act.put, List.setIfInBounds_toArray, List.set_cons_zero, List.set_cons_succ]
    rfl
  refine plan_v (i := 7) (N := (some 4)) (v := ?v7) (a' := ?b7) rfl rfl hS2.out (by rfl) ?hy7 ?ha7 ?_
  case hy7 =>
    intro w' hS'
    go_simp
    with_reducible rfl
  case ha7 =>
    simp only [Act.put, List.setIfInBounds_toArray, List.set_cons_zero, List.set_cons_succ]
    rfl
  refine plan_v (i := 8) (N := (some 5)) (v := ?v8) (a' := ?b8) rfl rfl hS2.out (by rfl) ?hy8 ?ha8 ?_
  case hy8 =>
    intro w' hS'
    go_simp
    with_reducible rfl
  case ha8 =>
    simp only [Act.put, List.setIfInBounds_toArray, List.set_cons_zero, List.set_cons_succ]
    rfl
  refine plan_done ?_
  go_wp2_with fail
  go_ret2
  exact ⟨rfl, B2.out⟩

theorem get41_any (f : Fmt) (s : ByteArray) (w : World) (hf : f.fit) : Calls Try.prog 41 #[fmtV f, .string s] w fun e w' => e = .returned (.tuple #[.int .i64 (getV f (sizeN f) s), .int .i64 (getE f (sizeN f) s)]) ∧ Below w.heap.size w w' :=
  get41_walk f s (sizeN f) _ _ w (fun w => size_any f w hf) (fun w => get97_any f (sizeN f) s w (size_le f) hf)

end Go.Proofs.Ytodlpofpeoiedaa
