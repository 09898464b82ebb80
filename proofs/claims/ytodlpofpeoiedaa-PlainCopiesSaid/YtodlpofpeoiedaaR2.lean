/-
  The contract of format.Value.
-/
import Derived.Test.YtodlpofpeoiedaaR
namespace Go.Proofs.Ytodlpofpeoiedaa
open Go.RowKit

set_option maxHeartbeats 3200000 in
set_option maxRecDepth 100000 in
theorem value_walk (a b : Int) (e f : Bool) (rm gm bm : Int) (rs gs bs : Nat) (c x1 x2 x3 d1 d2 d3 X1 X2 X3 Y Z : Int) (w : World)
    (hV : ∀ w, Calls Try.prog 17 #[.agg #[.int .i64 a, .int .i64 b, .bool e, .bool f, .int .i64 rm, .int .i64 gm, .int .i64 bm, .int .i64 rs, .int .i64 gs, .int .i64 bs]] w fun e w' => e = .returned (.bool true) ∧ Below w.heap.size w w')
    (a1 : bits .and .i64 (c / 65536) 255 = x1) (p1 : 0 ≤ x1 * rm) (q1 : x1 * rm ≤ 16711425) (e1 : (x1 * rm + 127) / 255 = d1) (g1 : d1 * 2 ^ rs = X1) (u1 : 0 ≤ X1) (v1 : X1 ≤ 281474976710656) (n1 : min rs 64 = rs)
    (a2 : bits .and .i64 (c / 256) 255 = x2) (p2 : 0 ≤ x2 * gm) (q2 : x2 * gm ≤ 16711425) (e2 : (x2 * gm + 127) / 255 = d2) (g2 : d2 * 2 ^ gs = X2) (u2 : 0 ≤ X2) (v2 : X2 ≤ 281474976710656) (n2 : min gs 64 = gs)
    (a3 : bits .and .i64 c 255 = x3) (p3 : 0 ≤ x3 * bm) (q3 : x3 * bm ≤ 16711425) (e3 : (x3 * bm + 127) / 255 = d3) (g3 : d3 * 2 ^ bs = X3) (u3 : 0 ≤ X3) (v3 : X3 ≤ 281474976710656) (n3 : min bs 64 = bs)
    (o1 : bits .or .i64 0 X1 = X1) (o2 : bits .or .i64 X1 X2 = Y) (o3 : bits .or .i64 Y X3 = Z) :
    Calls Try.prog 39 #[.agg #[.int .i64 a, .int .i64 b, .bool e, .bool f, .int .i64 rm, .int .i64 gm, .int .i64 bm, .int .i64 rs, .int .i64 gs, .int .i64 bs], .int .i64 c] w fun e w' => e = .returned (.int .i64 Z) ∧ Below w.heap.size w w' := by
  have HV := hide hV
  clear hV
  have i0 := idx0 rm rs gm gs bm bs
  have i1 := idx1 rm rs gm gs bm bs
  have i2 := idx2 rm rs gm gs bm bs
  go_enter Try.func39, Try.ntmps39
  go_wp2_with fail
  refine (HV.out _).mono ?_
  rintro e w1 ⟨rfl, hb1⟩; obtain ⟨hc1, hf1⟩ := bcell hb1; have hz1 := lt_al hb1
  go_wp2_with fail
  refine (parts_any _ _ _ _ _ _ _ _ _ _ _).mono ?_
  rintro e w2 ⟨rfl, hb2⟩; obtain ⟨hc2, hf2⟩ := bcell hb2; have hz2 := hb2.size; have hq2 : w.heap.size < w2.heap.size := by omega
  have B2 : Below w.heap.size w w2 := (((Below.refl _ _).alloc (Nat.le_refl _) _).trans (hb1.mono (by simp))).trans (hb2.mono (by omega))
  have HB := hide B2
  clear B2
  go_wp2_with fail
  refine wp_loop_rounds 4 ?_
  rw [rounds_succ]
  go_wp2_with fail
  rw [rounds_succ]
  go_wp2_with fail
  rw [rounds_succ]
  go_wp2_with fail
  rw [rounds_succ]
  go_wp2_with fail
  go_ret
  refine ⟨rfl, ?_⟩
  have hle := HB.out.size
  exact ((HB.out.alloc hle _).alloc (by simp; omega) _).alloc (by simp; omega) _


/-- A colour's value. -/
def valV (f : Fmt) (c : Int) : Int := dn (c / 65536 % 256) f.rm * 2 ^ f.rs.toNat + dn (c / 256 % 256) f.gm * 2 ^ f.gs.toNat + dn (c % 256) f.bm * 2 ^ f.bs.toNat

theorem valid_parts {f : Fmt} (h : validB f = true) : (f.bits = 8 ∨ f.bits = 16 ∨ f.bits = 32) ∧ partOk f.bits f.rm f.rs = true ∧ partOk f.bits f.gm f.gs = true ∧ partOk f.bits f.bm f.bs = true ∧
    bits .and .i64 (mk f.rm f.rs) (mk f.gm f.gs) = 0 ∧ bits .and .i64 (mk f.rm f.rs) (mk f.bm f.bs) = 0 ∧ bits .and .i64 (mk f.gm f.gs) (mk f.bm f.bs) = 0 := by
  simp only [validB, apart, headOk, Bool.and_eq_true, decide_eq_true_eq, beq_iff_eq] at h
  obtain ⟨⟨⟨⟨h1, h2⟩, h3⟩, h4⟩, ⟨h5, h6⟩, h7⟩ := h
  exact ⟨h1.1, h2, h3, h4, h5, h6, h7⟩

theorem mod_bd (c : Int) : 0 ≤ c % 256 ∧ c % 256 ≤ 255 := by omega

theorem and_zero_nat {p q : Nat} (hp : p < 9223372036854775808) (hq : q < 9223372036854775808) (h : bits .and .i64 (p : Int) (q : Int) = 0) : p &&& q = 0 := by
  rw [and_i64_nat p q hp hq] at h
  exact Int.ofNat.inj h

/-- What lies within two parts' masks lies within both. -/
theorem or_in {a b p q : Nat} (h1 : a &&& p = a) (h2 : b &&& q = b) : (a ||| b) &&& (p ||| q) = a ||| b := by
  apply Nat.eq_of_testBit_eq
  intro i
  have e1 := congrArg (fun n => n.testBit i) h1
  have e2 := congrArg (fun n => n.testBit i) h2
  simp only [Nat.testBit_and] at e1 e2
  simp only [Nat.testBit_and, Nat.testBit_or]
  revert e1 e2
  cases a.testBit i <;> cases b.testBit i <;> cases p.testBit i <;> cases q.testBit i <;> simp

/-- The three parts of a value: each lies within its mask, and they are added. -/
theorem val_parts {f : Fmt} (h : validB f = true) {d1 d2 d3 : Int} (h1 : 0 ≤ d1 ∧ d1 ≤ f.rm) (h2 : 0 ≤ d2 ∧ d2 ≤ f.gm) (h3 : 0 ≤ d3 ∧ d3 ≤ f.bm) :
    (0 ≤ d1 * 2 ^ f.rs.toNat ∧ d1 * 2 ^ f.rs.toNat ≤ 281474976710656) ∧ (0 ≤ d2 * 2 ^ f.gs.toNat ∧ d2 * 2 ^ f.gs.toNat ≤ 281474976710656) ∧ (0 ≤ d3 * 2 ^ f.bs.toNat ∧ d3 * 2 ^ f.bs.toNat ≤ 281474976710656) ∧
    bits .or .i64 0 (d1 * 2 ^ f.rs.toNat) = d1 * 2 ^ f.rs.toNat ∧
    bits .or .i64 (d1 * 2 ^ f.rs.toNat) (d2 * 2 ^ f.gs.toNat) = d1 * 2 ^ f.rs.toNat + d2 * 2 ^ f.gs.toNat ∧
    bits .or .i64 (d1 * 2 ^ f.rs.toNat + d2 * 2 ^ f.gs.toNat) (d3 * 2 ^ f.bs.toNat) = d1 * 2 ^ f.rs.toNat + d2 * 2 ^ f.gs.toNat + d3 * 2 ^ f.bs.toNat := by
  obtain ⟨hb, r1, r2, r3, a12, a13, a23⟩ := valid_parts h
  have hn : f.bits ≤ 32 := by omega
  have bd : ∀ (m s d : Int), partOk f.bits m s = true → 0 ≤ d → d ≤ m → 0 ≤ d * 2 ^ s.toNat ∧ d * 2 ^ s.toNat ≤ 281474976710656 := by
    intro m s d hp h0 h1
    obtain ⟨q1, q2, q3, q4⟩ := partOk_bd hn hp
    obtain ⟨p1, p2⟩ := pow_le32 (k := s.toNat) (by omega)
    refine ⟨Int.mul_nonneg h0 (by omega), ?_⟩
    have := Int.mul_le_mul (show d ≤ 65536 by omega) p1 (by omega) (by omega)
    omega
  refine ⟨bd _ _ _ r1 h1.1 h1.2, bd _ _ _ r2 h2.1 h2.2, bd _ _ _ r3 h3.1 h3.2, ?_⟩
  obtain ⟨q1, q2, q3, q4⟩ := partOk_bd hn r1
  obtain ⟨q5, q6, q7, q8⟩ := partOk_bd hn r2
  obtain ⟨q9, q10, q11, q12⟩ := partOk_bd hn r3
  obtain ⟨X1, M1, e1, g1, l1, k1, z1⟩ := in_mask (partOk_iff.1 r1).1 q3 q4 h1.1 h1.2
  obtain ⟨X2, M2, e2, g2, l2, k2, z2⟩ := in_mask (partOk_iff.1 r2).1 q7 q8 h2.1 h2.2
  obtain ⟨X3, M3, e3, g3, l3, k3, z3⟩ := in_mask (partOk_iff.1 r3).1 q11 q12 h3.1 h3.2
  rw [g1, g2] at a12
  rw [g1, g3] at a13
  rw [g2, g3] at a23
  have n12 := and_zero_nat k1 k2 a12
  have n13 := and_zero_nat k1 k3 a13
  have n23 := and_zero_nat k2 k3 a23
  rw [e1, e2, e3]
  refine ⟨or_zero X1 l1, or_parts l1 l2 z1 z2 n12, ?_⟩
  have hx := or_parts l1 l2 z1 z2 n12
  have hor : ((X1 ||| X2 : Nat) : Int) = (X1 : Int) + X2 := by rw [← hx, or_i64_nat X1 X2 l1 l2]
  rw [← hor]
  have hlt : X1 ||| X2 < 2 ^ 63 := Nat.or_lt_two_pow (by omega) (by omega)
  refine or_parts (by omega) l3 (or_in z1 z2) z3 ?_
  rw [Nat.and_or_distrib_right, n13, n23]
  rfl

/-- format.Value of a format that may be. -/
theorem value_any (f : Fmt) (c : Int) (w : World) (h : validB f = true) :
    Calls Try.prog 39 #[fmtV f, .int .i64 c] w fun e w' => e = .returned (.int .i64 (valV f c)) ∧ Below w.heap.size w w' := by
  obtain ⟨hb, r1, r2, r3, _⟩ := valid_parts h
  have hn : f.bits ≤ 32 := by omega
  obtain ⟨q1, q2, q3, q4⟩ := partOk_bd hn r1
  obtain ⟨q5, q6, q7, q8⟩ := partOk_bd hn r2
  obtain ⟨q9, q10, q11, q12⟩ := partOk_bd hn r3
  obtain ⟨x1, y1⟩ := mod_bd (c / 65536)
  obtain ⟨x2, y2⟩ := mod_bd (c / 256)
  obtain ⟨x3, y3⟩ := mod_bd c
  have D1 := dn_bd x1 y1 (show 0 ≤ f.rm by omega)
  have D2 := dn_bd x2 y2 (show 0 ≤ f.gm by omega)
  have D3 := dn_bd x3 y3 (show 0 ≤ f.bm by omega)
  have V := fun w => valid_any f w (by omega) (by omega) (by omega)
  rw [h] at V
  obtain ⟨⟨u1, v1⟩, ⟨u2, v2⟩, ⟨u3, v3⟩, o1, o2, o3⟩ := val_parts h D1 D2 D3
  obtain ⟨p1, t1⟩ := mul_bd x1 y1 (show 0 ≤ f.rm by omega) q2
  obtain ⟨p2, t2⟩ := mul_bd x2 y2 (show 0 ≤ f.gm by omega) q6
  obtain ⟨p3, t3⟩ := mul_bd x3 y3 (show 0 ≤ f.bm by omega) q10
  obtain ⟨a, b, e, t, rm, gm, bm, rs, gs, bs⟩ := f
  obtain ⟨rs, rfl⟩ := Int.eq_ofNat_of_zero_le q3
  obtain ⟨gs, rfl⟩ := Int.eq_ofNat_of_zero_le q7
  obtain ⟨bs, rfl⟩ := Int.eq_ofNat_of_zero_le q11
  simp only [Int.toNat_natCast] at *
  exact value_walk a b e t rm gm bm rs gs bs c _ _ _ _ _ _ _ _ _ _ _ w V (and_255 _) p1 t1 rfl rfl u1 v1 (by omega) (and_255 _) p2 t2 rfl rfl u2 v2 (by omega) (and_255 _) p3 t3 rfl rfl u3 v3 (by omega) o1 o2 o3

end Go.Proofs.Ytodlpofpeoiedaa
