/-
  The contract of format.Colour, and of Quant.
-/
import Derived.Test.YtodlpofpeoiedaaR2
namespace Go.Proofs.Ytodlpofpeoiedaa
open Go.RowKit

set_option maxHeartbeats 3200000 in
set_option maxRecDepth 100000 in
theorem colour_walk (a b : Int) (e f : Bool) (rm gm bm : Int) (rs gs bs : Nat) (v x1 x2 x3 u1 u2 u3 Y Z : Int) (w : World)
    (hV : ∀ w, Calls Try.prog 17 #[.agg #[.int .i64 a, .int .i64 b, .bool e, .bool f, .int .i64 rm, .int .i64 gm, .int .i64 bm, .int .i64 rs, .int .i64 gs, .int .i64 bs]] w fun e w' => e = .returned (.bool true) ∧ Below w.heap.size w w')
    (a1 : bits .and .i64 (v / 2 ^ rs) rm = x1) (p1 : 0 ≤ x1) (q1 : x1 ≤ 65535) (m1 : 1 ≤ rm) (l1 : rm ≤ 65535) (e1 : (x1 * 255 + rm / 2) / rm = u1) (g1 : 0 ≤ u1) (k1 : u1 ≤ 255) (n1 : min rs 64 = rs)
    (a2 : bits .and .i64 (v / 2 ^ gs) gm = x2) (p2 : 0 ≤ x2) (q2 : x2 ≤ 65535) (m2 : 1 ≤ gm) (l2 : gm ≤ 65535) (e2 : (x2 * 255 + gm / 2) / gm = u2) (n2 : min gs 64 = gs) (a3 : bits .and .i64 (v / 2 ^ bs) bm = x3) (p3 : 0 ≤ x3)
    (q3 : x3 ≤ 65535) (m3 : 1 ≤ bm) (l3 : bm ≤ 65535) (e3 : (x3 * 255 + bm / 2) / bm = u3) (n3 : min bs 64 = bs) (o1 : bits .or .i64 0 u1 = u1) (o2 : bits .or .i64 (u1 * 256) u2 = Y) (y0 : 0 ≤ Y) (y1 : Y ≤ 65535)
    (o3 : bits .or .i64 (Y * 256) u3 = Z) :
    Calls Try.prog 40 #[.agg #[.int .i64 a, .int .i64 b, .bool e, .bool f, .int .i64 rm, .int .i64 gm, .int .i64 bm, .int .i64 rs, .int .i64 gs, .int .i64 bs], .int .i64 v] w fun e w' => e = .returned (.int .i64 Z) ∧ Below w.heap.size w w' := by
  have HV := hide hV
  clear hV
  have i0 := idx0 rm rs gm gs bm bs
  have i1 := idx1 rm rs gm gs bm bs
  have i2 := idx2 rm rs gm gs bm bs
  go_enter Try.func40, Try.ntmps40
  go_wp2_with fail
  refine (HV.out _).mono ?_
  rintro e w1 ⟨rfl, hb1⟩; obtain ⟨hc1, hf1⟩ := bcell hb1; have hz1 := lt_al hb1
  go_wp2_with fail
  refine (parts_any _ _ _ _ _ _ _ _ _ _ _).mono ?_
  rintro e w2 ⟨rfl, hb2⟩; obtain ⟨hc2, hf2⟩ := bcell hb2; have hz2 := hb2.size; have hq2 : w.heap.size < w2.heap.size := by omega
  have B2 : Below w.heap.size w w2 := (((Below.refl _ _).alloc (Nat.le_refl _) _).trans (hb1.mono (by simp))).trans (hb2.mono (by omega))
  have HB := hide B2
  clear B2
  go_wp2_with fail
  refine wp_loop_rounds 4 ?_
  rw [rounds_succ]
  go_wp2_with fail
  go_quiet (fail)
  go_wp2_with fail
  rw [rounds_succ]
  go_wp2_with fail
  go_quiet (fail)
  go_wp2_with fail
  rw [rounds_succ]
  go_wp2_with fail
  go_quiet (fail)
  go_wp2_with fail
  rw [rounds_succ]
  go_wp2_with fail
  go_ret
  refine ⟨rfl, ?_⟩
  repeat (first | exact HB.out | refine below_drewN ?_ _ | refine below_al ?_ (Nat.le_refl _) _)


/-- A value's colour. -/
def colV (f : Fmt) (v : Int) : Int := up (v / 2 ^ f.rs.toNat % (f.rm + 1)) f.rm * 65536 + up (v / 2 ^ f.gs.toNat % (f.gm + 1)) f.gm * 256 + up (v / 2 ^ f.bs.toNat % (f.bm + 1)) f.bm
/-- What is left of a colour. -/
def quantV (f : Fmt) (c : Int) : Int := colV f (valV f c)

theorem or_low (x y : Int) (h0 : 0 ≤ x) (h1 : x ≤ 65535) (h2 : 0 ≤ y) (h3 : y ≤ 255) : bits .or .i64 (x * 256) y = x * 256 + y := by
  have hc : bits .or .i64 (x * 256) y = bits .or .i64 y (x * 256) := by simp only [bits, BitVec.or_comm]
  rw [hc]
  obtain ⟨a, rfl⟩ := Int.eq_ofNat_of_zero_le h0
  obtain ⟨b, rfl⟩ := Int.eq_ofNat_of_zero_le h2
  have h := or_nat 8 b a (by omega) (by omega) (by omega)
  have e : ((a * 2 ^ 8 : Nat) : Int) = (a : Int) * 256 := by rw [Int.natCast_mul]; rfl
  rw [e] at h
  rw [h]
  omega

theorem emod_bd (n m : Int) (h : 1 ≤ m) (h2 : m ≤ 65535) : 0 ≤ n % (m + 1) ∧ n % (m + 1) ≤ m ∧ n % (m + 1) ≤ 65535 := by
  have h1 := Int.emod_nonneg n (show m + 1 ≠ 0 by omega)
  have h3 := Int.emod_lt_of_pos n (show 0 < m + 1 by omega)
  omega

/-- format.Colour of a format that may be. -/
theorem colour_any (f : Fmt) (v : Int) (w : World) (h : validB f = true) :
    Calls Try.prog 40 #[fmtV f, .int .i64 v] w fun e w' => e = .returned (.int .i64 (colV f v)) ∧ Below w.heap.size w w' := by
  obtain ⟨hb, r1, r2, r3, _⟩ := valid_parts h
  have hn : f.bits ≤ 32 := by omega
  obtain ⟨q1, q2, q3, q4⟩ := partOk_bd hn r1
  obtain ⟨q5, q6, q7, q8⟩ := partOk_bd hn r2
  obtain ⟨q9, q10, q11, q12⟩ := partOk_bd hn r3
  have V := fun w => valid_any f w (by omega) (by omega) (by omega)
  rw [h] at V
  have W1 := (partOk_iff.1 r1).1
  have W2 := (partOk_iff.1 r2).1
  have W3 := (partOk_iff.1 r3).1
  unfold colV
  obtain ⟨a, b, e, t, rm, gm, bm, rs, gs, bs⟩ := f
  obtain ⟨rs, rfl⟩ := Int.eq_ofNat_of_zero_le q3
  obtain ⟨gs, rfl⟩ := Int.eq_ofNat_of_zero_le q7
  obtain ⟨bs, rfl⟩ := Int.eq_ofNat_of_zero_le q11
  simp only [Int.toNat_natCast] at *
  obtain ⟨z1, z2, z3⟩ := emod_bd (v / 2 ^ rs) rm q1 q2
  obtain ⟨z4, z5, z6⟩ := emod_bd (v / 2 ^ gs) gm q5 q6
  obtain ⟨z7, z8, z9⟩ := emod_bd (v / 2 ^ bs) bm q9 q10
  obtain ⟨g1, k1⟩ := up_bd z1 z2 q1
  obtain ⟨g2, k2⟩ := up_bd z4 z5 q5
  obtain ⟨g3, k3⟩ := up_bd z7 z8 q9
  refine colour_walk a b e t rm gm bm rs gs bs v _ _ _ _ _ _ (up (v / 2 ^ rs % (rm + 1)) rm * 256 + up (v / 2 ^ gs % (gm + 1)) gm) _ w V
    (and_width _ W1) z1 z3 q1 q2 rfl g1 k1 (by omega) (and_width _ W2) z4 z6 q5 q6 rfl (by omega) (and_width _ W3) z7 z9 q9 q10 rfl (by omega) ?_ ?_ (by omega) (by omega) ?_
  · exact or0 _ g1 (by show up _ _ < 256; omega)
  · exact or_low _ _ g1 (by show up _ _ ≤ 65535; omega) g2 k2
  · refine (or_low _ _ (by omega) (by omega) g3 k3).trans ?_
    show (up (v / 2 ^ rs % (rm + 1)) rm * 256 + up (v / 2 ^ gs % (gm + 1)) gm) * 256 + up (v / 2 ^ bs % (bm + 1)) bm = _
    omega

end Go.Proofs.Ytodlpofpeoiedaa
