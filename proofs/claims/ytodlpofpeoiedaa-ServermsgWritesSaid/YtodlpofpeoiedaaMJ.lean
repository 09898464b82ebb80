/-
  The document's colours: a part of a colour, a part of a value, a colour's value, a value's colour.
-/
import Derived.Test.YtodlpofpeoiedaaMI
namespace Go.Proofs.Ytodlpofpeoiedaa
open Go.RowKit Go.Sort

theorem ret_i {a b : Int} (h : a = b) : Ending.returned (.int .i64 a) = .returned (.int .i64 b) := by rw [h]

set_option maxHeartbeats 3200000 in
set_option maxRecDepth 100000 in
theorem rdown_walk (p m d X : Int) (s : Nat) (w : World) (hp : 0 ≤ p * m) (hq : p * m ≤ 16711425) (e1 : (p * m + 127) / 255 = d) (g1 : d * 2 ^ s = X) (u1 : 0 ≤ X) (v1 : X ≤ 281474976710656) (n1 : min s 64 = s) :
    Calls Try.prog 138 #[.int .i64 p, .int .i64 m, .int .i64 s] w fun e w' => e = .returned (.int .i64 X) ∧ w = w' := by
  go_enter Try.func138, Try.ntmps138
  go_wp2_with fail
  go_ret
  exact ⟨rfl, rfl⟩

set_option maxHeartbeats 3200000 in
set_option maxRecDepth 100000 in
theorem rup_walk (v m x u : Int) (s : Nat) (w : World) (a1 : bits .and .i64 (v / 2 ^ s) m = x) (p1 : 0 ≤ x) (q1 : x ≤ 65535) (m1 : 1 ≤ m) (l1 : m ≤ 65535) (e1 : (x * 255 + m / 2) / m = u) (n1 : min s 64 = s) :
    Calls Try.prog 137 #[.int .i64 v, .int .i64 m, .int .i64 s] w fun e w' => e = .returned (.int .i64 u) ∧ w = w' := by
  have E := hide e1
  clear e1
  go_enter Try.func137, Try.ntmps137
  go_wp2_with fail
  go_ret
  exact ⟨ret_i E.out, rfl⟩

theorem part_bd {f : Fmt} (h : validB f = true) : (∃ s : Nat, f.rs = s ∧ s ≤ 32 ∧ 1 ≤ f.rm ∧ f.rm ≤ 65535 ∧ widthOf f.rm ≠ 0) ∧ (∃ s : Nat, f.gs = s ∧ s ≤ 32 ∧ 1 ≤ f.gm ∧ f.gm ≤ 65535 ∧ widthOf f.gm ≠ 0) ∧ (∃ s : Nat, f.bs = s ∧ s ≤ 32 ∧ 1 ≤ f.bm ∧ f.bm ≤ 65535 ∧ widthOf f.bm ≠ 0) := by
  obtain ⟨hb, h1, h2, h3, _⟩ := valid_parts h
  have hb32 : f.bits ≤ 32 := by omega
  have one : ∀ m s : Int, partOk f.bits m s = true → ∃ k : Nat, s = k ∧ k ≤ 32 ∧ 1 ≤ m ∧ m ≤ 65535 ∧ widthOf m ≠ 0 := fun m s hp => by
    obtain ⟨b1, b2, b3, b4⟩ := partOk_bd hb32 hp
    obtain ⟨k, rfl⟩ := Int.eq_ofNat_of_zero_le b3
    exact ⟨k, rfl, by omega, b1, b2, (partOk_iff.1 hp).1⟩
  exact ⟨one _ _ h1, one _ _ h2, one _ _ h3⟩

theorem dn_pow {x m : Int} {s : Nat} (hx : 0 ≤ x ∧ x ≤ 255) (hm : 1 ≤ m) (hm2 : m ≤ 65535) (hs : s ≤ 32) : 0 ≤ x * m ∧ x * m ≤ 16711425 ∧ 0 ≤ dn x m * 2 ^ s ∧ dn x m * 2 ^ s ≤ 281474976710656 ∧ min s 64 = s := by
  obtain ⟨h1, h2⟩ := mul_bd hx.1 hx.2 (show 0 ≤ m by omega) hm2
  obtain ⟨h3, h4⟩ := dn_bd hx.1 hx.2 (show 0 ≤ m by omega)
  have hp := pow_le32 hs
  obtain ⟨h5, h6⟩ := mul_bd h3 (show dn x m ≤ 65535 by omega) (show (0 : Int) ≤ 2 ^ s by omega) hp.1
  exact ⟨h1, h2, h5, by omega, by omega⟩

theorem rdown_any (x m : Int) (s : Nat) (w : World) (hx : 0 ≤ x ∧ x ≤ 255) (hm : 1 ≤ m) (hm2 : m ≤ 65535) (hs : s ≤ 32) :
    Calls Try.prog 138 #[.int .i64 x, .int .i64 m, .int .i64 s] w fun e w' => e = .returned (.int .i64 (dn x m * 2 ^ s)) ∧ w = w' := by
  obtain ⟨h1, h2, h3, h4, h5⟩ := dn_pow hx hm hm2 hs
  exact rdown_walk x m (dn x m) _ s w h1 h2 rfl rfl h3 h4 h5

theorem rup_any (v m : Int) (s : Nat) (w : World) (hm : 1 ≤ m) (hm2 : m ≤ 65535) (hs : s ≤ 32) (hw : widthOf m ≠ 0) :
    Calls Try.prog 137 #[.int .i64 v, .int .i64 m, .int .i64 s] w fun e w' => e = .returned (.int .i64 (up (v / 2 ^ s % (m + 1)) m)) ∧ w = w' := by
  obtain ⟨b1, b2, b3⟩ := emod_bd (v / 2 ^ s) m hm hm2
  exact rup_walk v m _ _ s w (and_width _ hw) b1 b3 hm hm2 rfl (by omega)

set_option maxHeartbeats 3200000 in
set_option maxRecDepth 100000 in
theorem rvalue_walk (f : Fmt) (rs gs bs : Nat) (c x1 x2 x3 X1 X2 X3 : Int) (w : World)
    (a1 : bits .and .i64 (c / 65536) 255 = x1) (a2 : bits .and .i64 (c / 256) 255 = x2) (a3 : bits .and .i64 c 255 = x3) (u1 : 0 ≤ X1) (v1 : X1 ≤ 281474976710656) (u2 : 0 ≤ X2) (v2 : X2 ≤ 281474976710656) (u3 : 0 ≤ X3) (v3 : X3 ≤ 281474976710656)
    (K1 : Hid (∀ w, Calls Try.prog 138 #[.int .i64 x1, .int .i64 f.rm, .int .i64 rs] w fun e w' => e = .returned (.int .i64 X1) ∧ w = w'))
    (K2 : Hid (∀ w, Calls Try.prog 138 #[.int .i64 x2, .int .i64 f.gm, .int .i64 gs] w fun e w' => e = .returned (.int .i64 X2) ∧ w = w'))
    (K3 : Hid (∀ w, Calls Try.prog 138 #[.int .i64 x3, .int .i64 f.bm, .int .i64 bs] w fun e w' => e = .returned (.int .i64 X3) ∧ w = w')) :
    Calls Try.prog 93 #[.agg #[.int .i64 f.bits, .int .i64 f.depth, .bool f.big, .bool f.tru, .int .i64 f.rm, .int .i64 f.gm, .int .i64 f.bm, .int .i64 rs, .int .i64 gs, .int .i64 bs], .int .i64 c] w fun e w' => e = .returned (.int .i64 (X1 + X2 + X3)) ∧ Below w.heap.size w w' := by
  have F0 := hide (Blk.new w 23 #[.int .i64 f.bits, .int .i64 f.depth, .bool f.big, .bool f.tru, .int .i64 f.rm, .int .i64 f.gm, .int .i64 f.bm, .int .i64 rs, .int .i64 gs, .int .i64 bs])
  have B0 := hide ((Below.refl w.heap.size w).alloc (Nat.le_refl _) (.cells #[.int .i64 f.bits, .int .i64 f.depth, .bool f.big, .bool f.tru, .int .i64 f.rm, .int .i64 f.gm, .int .i64 f.bm, .int .i64 rs, .int .i64 gs, .int .i64 bs] 23))
  go_enter Try.func93, Try.ntmps93
  go_upto_region 1 with fail
  generalize w.alloc (.cells #[.int .i64 f.bits, .int .i64 f.depth, .bool f.big, .bool f.tru, .int .i64 f.rm, .int .i64 f.gm, .int .i64 f.bm, .int .i64 rs, .int .i64 gs, .int .i64 bs] 23) = w0 at *
  have F1 := hide (show Blk w.heap.size 23 #[.int .i64 f.bits, .int .i64 f.depth, .bool f.big, .bool f.tru, .int .i64 f.rm, .int .i64 f.gm, .int .i64 f.bm, .int .i64 rs, .int .i64 gs, .int .i64 bs] w0.drew from F0.out)
  have B1 := hide (show Below w.heap.size w w0.drew from B0.out.drew)
  clear F0 B0
  refine plan_region [(0, true), (1, true), (2, true), (3, true), (4, true), (5, true), (6, true), (7, true), (8, true), (9, true), (10, true), (11, true), (12, true), (13, true), (14, true), (15, true), (16, true), (17, true), (18, true), (19, true), (20, true), (21, true), (22, true), (23, true), (24, true), (25, true)] (fun w' => Blk w.heap.size 23 #[.int .i64 f.bits, .int .i64 f.depth, .bool f.big, .bool f.tru, .int .i64 f.rm, .int .i64 f.gm, .int .i64 f.bm, .int .i64 rs, .int .i64 gs, .int .i64 bs] w') [] rfl (by kernel_rfl) (fun _ _ d _ _ h => by cases d <;> exact h) ?_
  generalize w0.drew = w1 at *
  refine plan_v (i := 0) (N := (some 5)) (v := ?v1x0) (a' := ?b1x0) rfl rfl F1.out (by rfl) ?hy1x0 ?ha1x0 ?_
  case hy1x0 =>
    intro w' hS'
    go_simp
    with_reducible rfl
  case ha1x0 =>
    simp only [Act.put, List.setIfInBounds_toArray, List.set_cons_zero, List.set_cons_succ]
    rfl
  refine plan_v (i := 1) (N := (some 6)) (v := ?v1x1) (a' := ?b1x1) rfl rfl F1.out (by rfl) ?hy1x1 ?ha1x1 ?_
  case hy1x1 =>
    intro w' hS'
    go_simp
    with_reducible rfl
  case ha1x1 =>
    simp only [Act.put, List.setIfInBounds_toArray, List.set_cons_zero, List.set_cons_succ]
    rfl
  refine plan_v (i := 2) (N := (some 7)) (v := ?v1x2) (a' := ?b1x2) rfl rfl F1.out (by rfl) ?hy1x2 ?ha1x2 ?_
  case hy1x2 =>
    intro w' hS'
    go_simp
    with_reducible rfl
  case ha1x2 =>
    simp only [Act.put, List.setIfInBounds_toArray, List.set_cons_zero, List.set_cons_succ]
    rfl
  refine plan_v (i := 3) (N := (some 8)) (v := ?v1x3) (a' := ?b1x3) rfl rfl F1.out (by rfl) ?hy1x3 ?ha1x3 ?_
  case hy1x3 =>
    intro w' hS'
    go_simp
    with_reducible rfl
  case ha1x3 =>
    simp only [Act.put, List.setIfInBounds_toArray, List.set_cons_zero, List.set_cons_succ]
    rfl
  refine plan_v (i := 4) (N := (some 9)) (v := ?v1x4) (a' := ?b1x4) rfl rfl F1.out (by rfl) ?hy1x4 ?ha1x4 ?_
  case hy1x4 =>
    intro w' hS'
    have f4 : w'.cell? ⟨w.heap.size, 4, none⟩ = some (.int .i64 f.rm) := hS'.cell 4
    go_simp
    with_reducible rfl
  case ha1x4 =>
    simp only [Act.put, List.setIfInBounds_toArray, List.set_cons_zero, List.set_cons_succ]
    rfl
  refine plan_v (i := 5) (N := (some 10)) (v := ?v1x5) (a' := ?b1x5) rfl rfl F1.out (by rfl) ?hy1x5 ?ha1x5 ?_
  case hy1x5 =>
    intro w' hS'
    go_simp
    with_reducible rfl
  case ha1x5 =>
    simp only [Act.put, List.setIfInBounds_toArray, List.set_cons_zero, List.set_cons_succ]
    rfl
  refine plan_v (i := 6) (N := (some 11)) (v := ?v1x6) (a' := ?b1x6) rfl rfl F1.out (by rfl) ?hy1x6 ?ha1x6 ?_
  case hy1x6 =>
    intro w' hS'
    have f7 : w'.cell? ⟨w.heap.size, 7, none⟩ = some (.int .i64 rs) := hS'.cell 7
    go_simp
    with_reducible rfl
  case ha1x6 =>
    simp only [Act.put, List.setIfInBounds_toArray, List.set_cons_zero, List.set_cons_succ]
    rfl
  refine plan_c (i := 7) (N := (some 12)) (v := .int .i64 X1) (f := 138) (args := #[.int .i64 x1, .int .i64 f.rm, .int .i64 rs]) (a' := ?b1x7) rfl rfl F1.out (by rfl) ?hy1x7 (fun w' hS' => (K1.out w').mono fun _ _ ⟨h1, h2⟩ => ⟨h1, h2.symm⟩) ?ha1x7 ?_
  case hy1x7 =>
    intro w' hS'
    go_simp
  case ha1x7 =>
    simp only [Act.put, List.setIfInBounds_toArray, List.set_cons_zero, List.set_cons_succ]
    rfl
  refine plan_v (i := 8) (N := (some 13)) (v := ?v1x8) (a' := ?b1x8) rfl rfl F1.out (by rfl) ?hy1x8 ?ha1x8 ?_
  case hy1x8 =>
    intro w' hS'
    go_simp
    with_reducible rfl
  case ha1x8 =>
    simp only [Act.put, List.setIfInBounds_toArray, List.set_cons_zero, List.set_cons_succ]
    rfl
  refine plan_v (i := 9) (N := (some 14)) (v := ?v1x9) (a' := ?b1x9) rfl rfl F1.out (by rfl) ?hy1x9 ?ha1x9 ?_
  case hy1x9 =>
    intro w' hS'
    go_simp
    with_reducible rfl
  case ha1x9 =>
    simp only [Act.put, List.setIfInBounds_toArray, List.set_cons_zero, List.set_cons_succ]
    rfl
  refine plan_v (i := 10) (N := (some 15)) (v := ?v1x10) (a' := ?b1x10) rfl rfl F1.out (by rfl) ?hy1x10 ?ha1x10 ?_
  case hy1x10 =>
    intro w' hS'
    go_simp
    with_reducible rfl
  case ha1x10 =>
    simp only [Act.put, List.setIfInBounds_toArray, List.set_cons_zero, List.set_cons_succ]
    rfl
  refine plan_v (i := 11) (N := (some 16)) (v := ?v1x11) (a' := ?b1x11) rfl rfl F1.out (by rfl) ?hy1x11 ?ha1x11 ?_
  case hy1x11 =>
    intro w' hS'
    go_simp
    with_reducible rfl
  case ha1x11 =>
    simp only [Act.put, List.setIfInBounds_toArray, List.set_cons_zero, List.set_cons_succ]
    rfl
  refine plan_v (i := 12) (N := (some 17)) (v := ?v1x12) (a' := ?b1x12) rfl rfl F1.out (by rfl) ?hy1x12 ?ha1x12 ?_
  case hy1x12 =>
    intro w' hS'
    have f5 : w'.cell? ⟨w.heap.size, 5, none⟩ = some (.int .i64 f.gm) := hS'.cell 5
    go_simp
    with_reducible rfl
  case ha1x12 =>
    simp only [Act.put, List.setIfInBounds_toArray, List.set_cons_zero, List.set_cons_succ]
    rfl
  refine plan_v (i := 13) (N := (some 18)) (v := ?v1x13) (a' := ?b1x13) rfl rfl F1.out (by rfl) ?hy1x13 ?ha1x13 ?_
  case hy1x13 =>
    intro w' hS'
    go_simp
    with_reducible rfl
  case ha1x13 =>
    simp only [Act.put, List.setIfInBounds_toArray, List.set_cons_zero, List.set_cons_succ]
    rfl
  refine plan_v (i := 14) (N := (some 19)) (v := ?v1x14) (a' := ?b1x14) rfl rfl F1.out (by rfl) ?hy1x14 ?ha1x14 ?_
  case hy1x14 =>
    intro w' hS'
    have f8 : w'.cell? ⟨w.heap.size, 8, none⟩ = some (.int .i64 gs) := hS'.cell 8
    go_simp
    with_reducible rfl
  case ha1x14 =>
    simp only [Act.put, List.setIfInBounds_toArray, List.set_cons_zero, List.set_cons_succ]
    rfl
  refine plan_c (i := 15) (N := (some 20)) (v := .int .i64 X2) (f := 138) (args := #[.int .i64 x2, .int .i64 f.gm, .int .i64 gs]) (a' := ?b1x15) rfl rfl F1.out (by rfl) ?hy1x15 (fun w' hS' => (K2.out w').mono fun _ _ ⟨h1, h2⟩ => ⟨h1, h2.symm⟩) ?ha1x15 ?_
  case hy1x15 =>
    intro w' hS'
    go_simp
  case ha1x15 =>
    simp only [Act.put, List.setIfInBounds_toArray, List.set_cons_zero, List.set_cons_succ]
    rfl
  refine plan_v (i := 16) (N := (some 21)) (v := ?v1x16) (a' := ?b1x16) rfl rfl F1.out (by rfl) ?hy1x16 ?ha1x16 ?_
  case hy1x16 =>
    intro w' hS'
    go_simp
    with_reducible rfl
  case ha1x16 =>
    simp only [Act.put, List.setIfInBounds_toArray, List.set_cons_zero, List.set_cons_succ]
    rfl
  refine plan_v (i := 17) (N := (some 22)) (v := ?v1x17) (a' := ?b1x17) rfl rfl F1.out (by rfl) ?hy1x17 ?ha1x17 ?_
  case hy1x17 =>
    intro w' hS'
    go_simp
    with_reducible rfl
  case ha1x17 =>
    simp only [Act.put, List.setIfInBounds_toArray, List.set_cons_zero, List.set_cons_succ]
    rfl
  refine plan_v (i := 18) (N := (some 23)) (v := ?v1x18) (a' := ?b1x18) rfl rfl F1.out (by rfl) ?hy1x18 ?ha1x18 ?_
  case hy1x18 =>
    intro w' hS'
    go_simp
    with_reducible rfl
  case ha1x18 =>
    simp only [Act.put, List.setIfInBounds_toArray, List.set_cons_zero, List.set_cons_succ]
    rfl
  refine plan_v (i := 19) (N := (some 24)) (v := ?v1x19) (a' := ?b1x19) rfl rfl F1.out (by rfl) ?hy1x19 ?ha1x19 ?_
  case hy1x19 =>
    intro w' hS'
    go_simp
    with_reducible rfl
  case ha1x19 =>
    simp only [Act.put, List.setIfInBounds_toArray, List.set_cons_zero, List.set_cons_succ]
    rfl
  refine plan_v (i := 20) (N := (some 25)) (v := ?v1x20) (a' := ?b1x20) rfl rfl F1.out (by rfl) ?hy1x20 ?ha1x20 ?_
  case hy1x20 =>
    intro w' hS'
    have f6 : w'.cell? ⟨w.heap.size, 6, none⟩ = some (.int .i64 f.bm) := hS'.cell 6
    go_simp
    with_reducible rfl
  case ha1x20 =>
    simp only [Act.put, List.setIfInBounds_toArray, List.set_cons_zero, List.set_cons_succ]
    rfl
  refine plan_v (i := 21) (N := (some 26)) (v := ?v1x21) (a' := ?b1x21) rfl rfl F1.out (by rfl) ?hy1x21 ?ha1x21 ?_
  case hy1x21 =>
    intro w' hS'
    go_simp
    with_reducible rfl
  case ha1x21 =>
    simp only [Act.put, List.setIfInBounds_toArray, List.set_cons_zero, List.set_cons_succ]
    rfl
  refine plan_v (i := 22) (N := (some 27)) (v := ?v1x22) (a' := ?b1x22) rfl rfl F1.out (by rfl) ?hy1x22 ?ha1x22 ?_
  case hy1x22 =>
    intro w' hS'
    have f9 : w'.cell? ⟨w.heap.size, 9, none⟩ = some (.int .i64 bs) := hS'.cell 9
    go_simp
    with_reducible rfl
  case ha1x22 =>
    simp only [Act.put, List.setIfInBounds_toArray, List.set_cons_zero, List.set_cons_succ]
    rfl
  refine plan_c (i := 23) (N := (some 28)) (v := .int .i64 X3) (f := 138) (args := #[.int .i64 x3, .int .i64 f.bm, .int .i64 bs]) (a' := ?b1x23) rfl rfl F1.out (by rfl) ?hy1x23 (fun w' hS' => (K3.out w').mono fun _ _ ⟨h1, h2⟩ => ⟨h1, h2.symm⟩) ?ha1x23 ?_
  case hy1x23 =>
    intro w' hS'
    go_simp
  case ha1x23 =>
    simp only [Act.put, List.setIfInBounds_toArray, List.set_cons_zero, List.set_cons_succ]
    rfl
  refine plan_v (i := 24) (N := (some 29)) (v := ?v1x24) (a' := ?b1x24) rfl rfl F1.out (by rfl) ?hy1x24 ?ha1x24 ?_
  case hy1x24 =>
    intro w' hS'
    go_simp
    with_reducible rfl
  case ha1x24 =>
    simp only [Act.put, List.setIfInBounds_toArray, List.set_cons_zero, List.set_cons_succ]
    rfl
  refine plan_v (i := 25) (N := (some 4)) (v := ?v1x25) (a' := ?b1x25) rfl rfl F1.out (by rfl) ?hy1x25 ?ha1x25 ?_
  case hy1x25 =>
    intro w' hS'
    go_simp
    with_reducible rfl
  case ha1x25 =>
    simp only [Act.put, List.setIfInBounds_toArray, List.set_cons_zero, List.set_cons_succ]
    rfl
  refine plan_done ?_
  go_wp2_with fail
  go_ret
  exact ⟨ret_i (show IntKind.i64.wrap (IntKind.i64.wrap (X1 + X2) + X3) = X1 + X2 + X3 by rw [IntWalk.i64_in (X1 + X2) (by omega), IntWalk.i64_in _ (by omega)]), B1.out⟩

set_option maxHeartbeats 3200000 in
set_option maxRecDepth 100000 in
theorem rcolour_walk (f : Fmt) (rs gs bs : Nat) (c u1 u2 u3 : Int) (w : World)
    (p1 : 0 ≤ u1) (q1 : u1 ≤ 255) (p2 : 0 ≤ u2) (q2 : u2 ≤ 255) (p3 : 0 ≤ u3) (q3 : u3 ≤ 255)
    (K1 : Hid (∀ w, Calls Try.prog 137 #[.int .i64 c, .int .i64 f.rm, .int .i64 rs] w fun e w' => e = .returned (.int .i64 u1) ∧ w = w'))
    (K2 : Hid (∀ w, Calls Try.prog 137 #[.int .i64 c, .int .i64 f.gm, .int .i64 gs] w fun e w' => e = .returned (.int .i64 u2) ∧ w = w'))
    (K3 : Hid (∀ w, Calls Try.prog 137 #[.int .i64 c, .int .i64 f.bm, .int .i64 bs] w fun e w' => e = .returned (.int .i64 u3) ∧ w = w')) :
    Calls Try.prog 92 #[.agg #[.int .i64 f.bits, .int .i64 f.depth, .bool f.big, .bool f.tru, .int .i64 f.rm, .int .i64 f.gm, .int .i64 f.bm, .int .i64 rs, .int .i64 gs, .int .i64 bs], .int .i64 c] w fun e w' => e = .returned (.int .i64 (u1 * 65536 + u2 * 256 + u3)) ∧ Below w.heap.size w w' := by
  have F0 := hide (Blk.new w 23 #[.int .i64 f.bits, .int .i64 f.depth, .bool f.big, .bool f.tru, .int .i64 f.rm, .int .i64 f.gm, .int .i64 f.bm, .int .i64 rs, .int .i64 gs, .int .i64 bs])
  have B0 := hide ((Below.refl w.heap.size w).alloc (Nat.le_refl _) (.cells #[.int .i64 f.bits, .int .i64 f.depth, .bool f.big, .bool f.tru, .int .i64 f.rm, .int .i64 f.gm, .int .i64 f.bm, .int .i64 rs, .int .i64 gs, .int .i64 bs] 23))
  go_enter Try.func92, Try.ntmps92
  go_upto_region 1 with fail
  generalize w.alloc (.cells #[.int .i64 f.bits, .int .i64 f.depth, .bool f.big, .bool f.tru, .int .i64 f.rm, .int .i64 f.gm, .int .i64 f.bm, .int .i64 rs, .int .i64 gs, .int .i64 bs] 23) = w0 at *
  have F1 := hide (show Blk w.heap.size 23 #[.int .i64 f.bits, .int .i64 f.depth, .bool f.big, .bool f.tru, .int .i64 f.rm, .int .i64 f.gm, .int .i64 f.bm, .int .i64 rs, .int .i64 gs, .int .i64 bs] w0.drew from F0.out)
  have B1 := hide (show Below w.heap.size w w0.drew from B0.out.drew)
  clear F0 B0
  refine plan_region [(0, true), (1, true), (2, true), (3, true), (4, true), (5, true), (6, true), (7, true), (8, true), (9, true), (10, true), (11, true), (12, true), (13, true), (14, true), (15, true), (16, true), (17, true), (18, true), (19, true), (20, true), (21, true), (22, true)] (fun w' => Blk w.heap.size 23 #[.int .i64 f.bits, .int .i64 f.depth, .bool f.big, .bool f.tru, .int .i64 f.rm, .int .i64 f.gm, .int .i64 f.bm, .int .i64 rs, .int .i64 gs, .int .i64 bs] w') [] rfl (by kernel_rfl) (fun _ _ d _ _ h => by cases d <;> exact h) ?_
  generalize w0.drew = w1 at *
  refine plan_v (i := 0) (N := (some 5)) (v := ?v1x0) (a' := ?b1x0) rfl rfl F1.out (by rfl) ?hy1x0 ?ha1x0 ?_
  case hy1x0 =>
    intro w' hS'
    go_simp
    with_reducible rfl
  case ha1x0 =>
    simp only [Act.put, List.setIfInBounds_toArray, List.set_cons_zero, List.set_cons_succ]
    rfl
  refine plan_v (i := 1) (N := (some 6)) (v := ?v1x1) (a' := ?b1x1) rfl rfl F1.out (by rfl) ?hy1x1 ?ha1x1 ?_
  case hy1x1 =>
    intro w' hS'
    go_simp
    with_reducible rfl
  case ha1x1 =>
    simp only [Act.put, List.setIfInBounds_toArray, List.set_cons_zero, List.set_cons_succ]
    rfl
  refine plan_v (i := 2) (N := (some 7)) (v := ?v1x2) (a' := ?b1x2) rfl rfl F1.out (by rfl) ?hy1x2 ?ha1x2 ?_
  case hy1x2 =>
    intro w' hS'
    have f4 : w'.cell? ⟨w.heap.size, 4, none⟩ = some (.int .i64 f.rm) := hS'.cell 4
    go_simp
    with_reducible rfl
  case ha1x2 =>
    simp only [Act.put, List.setIfInBounds_toArray, List.set_cons_zero, List.set_cons_succ]
    rfl
  refine plan_v (i := 3) (N := (some 8)) (v := ?v1x3) (a' := ?b1x3) rfl rfl F1.out (by rfl) ?hy1x3 ?ha1x3 ?_
  case hy1x3 =>
    intro w' hS'
    go_simp
    with_reducible rfl
  case ha1x3 =>
    simp only [Act.put, List.setIfInBounds_toArray, List.set_cons_zero, List.set_cons_succ]
    rfl
  refine plan_v (i := 4) (N := (some 9)) (v := ?v1x4) (a' := ?b1x4) rfl rfl F1.out (by rfl) ?hy1x4 ?ha1x4 ?_
  case hy1x4 =>
    intro w' hS'
    have f7 : w'.cell? ⟨w.heap.size, 7, none⟩ = some (.int .i64 rs) := hS'.cell 7
    go_simp
    with_reducible rfl
  case ha1x4 =>
    simp only [Act.put, List.setIfInBounds_toArray, List.set_cons_zero, List.set_cons_succ]
    rfl
  refine plan_c (i := 5) (N := (some 10)) (v := .int .i64 u1) (f := 137) (args := #[.int .i64 c, .int .i64 f.rm, .int .i64 rs]) (a' := ?b1x5) rfl rfl F1.out (by rfl) ?hy1x5 (fun w' hS' => (K1.out w').mono fun _ _ ⟨h1, h2⟩ => ⟨h1, h2.symm⟩) ?ha1x5 ?_
  case hy1x5 =>
    intro w' hS'
    go_simp
  case ha1x5 =>
    simp only [Act.put, List.setIfInBounds_toArray, List.set_cons_zero, List.set_cons_succ]
    rfl
  refine plan_v (i := 6) (N := (some 11)) (v := ?v1x6) (a' := ?b1x6) rfl rfl F1.out (by rfl) ?hy1x6 ?ha1x6 ?_
  case hy1x6 =>
    intro w' hS'
    go_simp
    with_reducible rfl
  case ha1x6 =>
    simp only [Act.put, List.setIfInBounds_toArray, List.set_cons_zero, List.set_cons_succ]
    rfl
  refine plan_v (i := 7) (N := (some 12)) (v := ?v1x7) (a' := ?b1x7) rfl rfl F1.out (by rfl) ?hy1x7 ?ha1x7 ?_
  case hy1x7 =>
    intro w' hS'
    go_simp
    with_reducible rfl
  case ha1x7 =>
    simp only [Act.put, List.setIfInBounds_toArray, List.set_cons_zero, List.set_cons_succ]
    rfl
  refine plan_v (i := 8) (N := (some 13)) (v := ?v1x8) (a' := ?b1x8) rfl rfl F1.out (by rfl) ?hy1x8 ?ha1x8 ?_
  case hy1x8 =>
    intro w' hS'
    go_simp
    with_reducible rfl
  case ha1x8 =>
    simp only [Act.put, List.setIfInBounds_toArray, List.set_cons_zero, List.set_cons_succ]
    rfl
  refine plan_v (i := 9) (N := (some 14)) (v := ?v1x9) (a' := ?b1x9) rfl rfl F1.out (by rfl) ?hy1x9 ?ha1x9 ?_
  case hy1x9 =>
    intro w' hS'
    have f5 : w'.cell? ⟨w.heap.size, 5, none⟩ = some (.int .i64 f.gm) := hS'.cell 5
    go_simp
    with_reducible rfl
  case ha1x9 =>
    simp only [Act.put, List.setIfInBounds_toArray, List.set_cons_zero, List.set_cons_succ]
    rfl
  refine plan_v (i := 10) (N := (some 15)) (v := ?v1x10) (a' := ?b1x10) rfl rfl F1.out (by rfl) ?hy1x10 ?ha1x10 ?_
  case hy1x10 =>
    intro w' hS'
    go_simp
    with_reducible rfl
  case ha1x10 =>
    simp only [Act.put, List.setIfInBounds_toArray, List.set_cons_zero, List.set_cons_succ]
    rfl
  refine plan_v (i := 11) (N := (some 16)) (v := ?v1x11) (a' := ?b1x11) rfl rfl F1.out (by rfl) ?hy1x11 ?ha1x11 ?_
  case hy1x11 =>
    intro w' hS'
    have f8 : w'.cell? ⟨w.heap.size, 8, none⟩ = some (.int .i64 gs) := hS'.cell 8
    go_simp
    with_reducible rfl
  case ha1x11 =>
    simp only [Act.put, List.setIfInBounds_toArray, List.set_cons_zero, List.set_cons_succ]
    rfl
  refine plan_c (i := 12) (N := (some 17)) (v := .int .i64 u2) (f := 137) (args := #[.int .i64 c, .int .i64 f.gm, .int .i64 gs]) (a' := ?b1x12) rfl rfl F1.out (by rfl) ?hy1x12 (fun w' hS' => (K2.out w').mono fun _ _ ⟨h1, h2⟩ => ⟨h1, h2.symm⟩) ?ha1x12 ?_
  case hy1x12 =>
    intro w' hS'
    go_simp
  case ha1x12 =>
    simp only [Act.put, List.setIfInBounds_toArray, List.set_cons_zero, List.set_cons_succ]
    rfl
  refine plan_v (i := 13) (N := (some 18)) (v := ?v1x13) (a' := ?b1x13) rfl rfl F1.out (by rfl) ?hy1x13 ?ha1x13 ?_
  case hy1x13 =>
    intro w' hS'
    go_simp
    with_reducible rfl
  case ha1x13 =>
    simp only [Act.put, List.setIfInBounds_toArray, List.set_cons_zero, List.set_cons_succ]
    rfl
  refine plan_v (i := 14) (N := (some 19)) (v := ?v1x14) (a' := ?b1x14) rfl rfl F1.out (by rfl) ?hy1x14 ?ha1x14 ?_
  case hy1x14 =>
    intro w' hS'
    go_simp
    with_reducible rfl
  case ha1x14 =>
    simp only [Act.put, List.setIfInBounds_toArray, List.set_cons_zero, List.set_cons_succ]
    rfl
  refine plan_v (i := 15) (N := (some 20)) (v := ?v1x15) (a' := ?b1x15) rfl rfl F1.out (by rfl) ?hy1x15 ?ha1x15 ?_
  case hy1x15 =>
    intro w' hS'
    go_simp
    with_reducible rfl
  case ha1x15 =>
    simp only [Act.put, List.setIfInBounds_toArray, List.set_cons_zero, List.set_cons_succ]
    rfl
  refine plan_v (i := 16) (N := (some 21)) (v := ?v1x16) (a' := ?b1x16) rfl rfl F1.out (by rfl) ?hy1x16 ?ha1x16 ?_
  case hy1x16 =>
    intro w' hS'
    go_simp
    with_reducible rfl
  case ha1x16 =>
    simp only [Act.put, List.setIfInBounds_toArray, List.set_cons_zero, List.set_cons_succ]
    rfl
  refine plan_v (i := 17) (N := (some 22)) (v := ?v1x17) (a' := ?b1x17) rfl rfl F1.out (by rfl) ?hy1x17 ?ha1x17 ?_
  case hy1x17 =>
    intro w' hS'
    have f6 : w'.cell? ⟨w.heap.size, 6, none⟩ = some (.int .i64 f.bm) := hS'.cell 6
    go_simp
    with_reducible rfl
  case ha1x17 =>
    simp only [Act.put, List.setIfInBounds_toArray, List.set_cons_zero, List.set_cons_succ]
    rfl
  refine plan_v (i := 18) (N := (some 23)) (v := ?v1x18) (a' := ?b1x18) rfl rfl F1.out (by rfl) ?hy1x18 ?ha1x18 ?_
  case hy1x18 =>
    intro w' hS'
    go_simp
    with_reducible rfl
  case ha1x18 =>
    simp only [Act.put, List.setIfInBounds_toArray, List.set_cons_zero, List.set_cons_succ]
    rfl
  refine plan_v (i := 19) (N := (some 24)) (v := ?v1x19) (a' := ?b1x19) rfl rfl F1.out (by rfl) ?hy1x19 ?ha1x19 ?_
  case hy1x19 =>
    intro w' hS'
    have f9 : w'.cell? ⟨w.heap.size, 9, none⟩ = some (.int .i64 bs) := hS'.cell 9
    go_simp
    with_reducible rfl
  case ha1x19 =>
    simp only [Act.put, List.setIfInBounds_toArray, List.set_cons_zero, List.set_cons_succ]
    rfl
  refine plan_c (i := 20) (N := (some 25)) (v := .int .i64 u3) (f := 137) (args := #[.int .i64 c, .int .i64 f.bm, .int .i64 bs]) (a' := ?b1x20) rfl rfl F1.out (by rfl) ?hy1x20 (fun w' hS' => (K3.out w').mono fun _ _ ⟨h1, h2⟩ => ⟨h1, h2.symm⟩) ?ha1x20 ?_
  case hy1x20 =>
    intro w' hS'
    go_simp
  case ha1x20 =>
    simp only [Act.put, List.setIfInBounds_toArray, List.set_cons_zero, List.set_cons_succ]
    rfl
  refine plan_v (i := 21) (N := (some 26)) (v := ?v1x21) (a' := ?b1x21) rfl rfl F1.out (by rfl) ?hy1x21 ?ha1x21 ?_
  case hy1x21 =>
    intro w' hS'
    go_simp
    with_reducible rfl
  case ha1x21 =>
    simp only [Act.put, List.setIfInBounds_toArray, List.set_cons_zero, List.set_cons_succ]
    rfl
  refine plan_v (i := 22) (N := (some 4)) (v := ?v1x22) (a' := ?b1x22) rfl rfl F1.out (by rfl) ?hy1x22 ?ha1x22 ?_
  case hy1x22 =>
    intro w' hS'
    go_simp
    with_reducible rfl
  case ha1x22 =>
    simp only [Act.put, List.setIfInBounds_toArray, List.set_cons_zero, List.set_cons_succ]
    rfl
  refine plan_done ?_
  go_wp2_with fail
  go_ret
  exact ⟨ret_i (show IntKind.i64.wrap (IntKind.i64.wrap (IntKind.i64.wrap (u1 * 65536) + IntKind.i64.wrap (u2 * 256)) + u3) = u1 * 65536 + u2 * 256 + u3 by rw [IntWalk.i64_in (u1 * 65536) (by omega), IntWalk.i64_in (u2 * 256) (by omega), IntWalk.i64_in (u1 * 65536 + u2 * 256) (by omega), IntWalk.i64_in _ (by omega)]), B1.out⟩

/-- miradorref13.Value. -/
theorem rvalue_any (f : Fmt) (c : Int) (w : World) (h : validB f = true) : Calls Try.prog 93 #[fmtV f, .int .i64 c] w fun e w' => e = .returned (.int .i64 (valV f c)) ∧ Below w.heap.size w w' := by
  obtain ⟨⟨rs, e1, s1, m1, n1, _⟩, ⟨gs, e2, s2, m2, n2, _⟩, bs, e3, s3, m3, n3, _⟩ := part_bd h
  obtain ⟨_, _, a3, a4, _⟩ := dn_pow (mod_bd (c / 65536)) m1 n1 s1
  obtain ⟨_, _, b3, b4, _⟩ := dn_pow (mod_bd (c / 256)) m2 n2 s2
  obtain ⟨_, _, c3, c4, _⟩ := dn_pow (mod_bd c) m3 n3 s3
  obtain ⟨fb, fd, fg, ft, rm, gm, bm, r1, r2, r3⟩ := f
  obtain rfl : r1 = rs := e1
  obtain rfl : r2 = gs := e2
  obtain rfl : r3 = bs := e3
  have := rvalue_walk ⟨fb, fd, fg, ft, rm, gm, bm, rs, gs, bs⟩ rs gs bs c _ _ _ _ _ _ w (and_255 _) (and_255 _) (and_255 _) a3 a4 b3 b4 c3 c4 (fun w => rdown_any _ _ _ w (mod_bd _) m1 n1 s1) (fun w => rdown_any _ _ _ w (mod_bd _) m2 n2 s2) (fun w => rdown_any _ _ _ w (mod_bd _) m3 n3 s3)
  exact this

/-- miradorref13.Colour. -/
theorem rcolour_any (f : Fmt) (v : Int) (w : World) (h : validB f = true) : Calls Try.prog 92 #[fmtV f, .int .i64 v] w fun e w' => e = .returned (.int .i64 (colV f v)) ∧ Below w.heap.size w w' := by
  obtain ⟨⟨rs, e1, s1, m1, n1, k1⟩, ⟨gs, e2, s2, m2, n2, k2⟩, bs, e3, s3, m3, n3, k3⟩ := part_bd h
  obtain ⟨a1, a2, a3⟩ := emod_bd (v / 2 ^ rs) f.rm m1 n1
  obtain ⟨b1, b2, b3⟩ := emod_bd (v / 2 ^ gs) f.gm m2 n2
  obtain ⟨c1, c2, c3⟩ := emod_bd (v / 2 ^ bs) f.bm m3 n3
  obtain ⟨x1, x2⟩ := up_bd a1 a2 m1
  obtain ⟨y1, y2⟩ := up_bd b1 b2 m2
  obtain ⟨z1, z2⟩ := up_bd c1 c2 m3
  obtain ⟨fb, fd, fg, ft, rm, gm, bm, r1, r2, r3⟩ := f
  obtain rfl : r1 = rs := e1
  obtain rfl : r2 = gs := e2
  obtain rfl : r3 = bs := e3
  have := rcolour_walk ⟨fb, fd, fg, ft, rm, gm, bm, rs, gs, bs⟩ rs gs bs v _ _ _ w x1 x2 y1 y2 z1 z2 (fun w => rup_any _ _ _ w m1 n1 s1 k1) (fun w => rup_any _ _ _ w m2 n2 s2 k2) (fun w => rup_any _ _ _ w m3 n3 s3 k3)
  exact this

end Go.Proofs.Ytodlpofpeoiedaa

/-
  The document's numbers in a format: put, get.
-/
namespace Go.Proofs.Ytodlpofpeoiedaa
open Go.RowKit Go.Sort

theorem leB_snoc (k : Nat) (n : Int) : leB (k + 1) n = leB k n ++ strOfNums [n / 2 ^ (8 * k) % 256] := by
  simp only [leB, leI_snoc2, nums_append]

set_option maxHeartbeats 1600000 in
set_option maxRecDepth 100000 in
theorem put139_walk (big : Bool) (k : Nat) (n : Int) (T : ByteArray) (w : World) (hk : k ≤ 4) (hT : Hid ((if big then beB k n else leB k n) = T))
    (K38 : Hid (∀ w, Calls Try.prog 38 #[.string (leB k n)] w fun e w' => e = .returned (.string (beB k n)) ∧ w' = w)) :
    Calls Try.prog 139 #[.bool big, .int .i64 k, .int .i64 n] w fun e w' => e = .returned (.string T) ∧ Below w.heap.size w w' := by
  have hcv := cv1
  go_enter Try.func139, Try.ntmps139
  go_wp2_with fail
  go_loopw [7, 8, 2] (fun s i m wr => ∃ j : Nat, j ≤ k ∧ s = .string (leB j n) ∧ i = .int .i64 j ∧ m = .int .i64 (n / 2 ^ (8 * j)) ∧ Hid (Below w.heap.size w wr)) (fun _ i _ _ => k - (intOf i).toNat)
  case atStart => exact ⟨0, by omega, rfl, rfl, by simp, hide (Below.refl _ _)⟩
  case round =>
    obtain ⟨j, hj, rfl, rfl, rfl, hB⟩ := hrel
    by_cases hlt : j < k
    · have hz := leB_size j n
      have hs := hide (leB_snoc j n)
      have ha := and_255 (n / 2 ^ (8 * j))
      have hd : n / 2 ^ (8 * j) / 256 = n / 2 ^ (8 * (j + 1)) := by
        rw [Nat.mul_add, Int.pow_add, Int.ediv_ediv_of_nonneg (Int.pow_nonneg (by decide))]
        rfl
      have hd' := hide hd
      clear hd
      have hc : (9223372036854775807 < j + (strOfNums [n / 2 ^ (8 * j) % 256]).size) = False := eq_false (by rw [strOfNums_size]; simp; omega)
      go_wp2_with fail
      go_roundw
      case rel =>
        refine ⟨j + 1, by omega, by rw [hs.out], by go_num, by rw [hd'.out], hide (hB.out.alloc hB.out.size _)⟩
      case measure => simp [intOf]; omega
    · obtain rfl : j = k := by omega
      cases big with
      | true =>
        go_wp2_with fail
        refine (K38.out _).mono ?_
        rintro e w1 ⟨rfl, rfl⟩
        go_wp2_with fail
        go_ret
        exact ⟨by rw [← hT.out]; rfl, hB.out⟩
      | false =>
        go_wp2_with fail
        go_ret
        exact ⟨by rw [← hT.out]; rfl, hB.out⟩

theorem leB_back (k : Nat) (n : Int) : (⟨(leB k n).data.reverse⟩ : ByteArray) = beB k n := beB_rev k n

/-- miradorref13.put. -/
theorem put139_any (big : Bool) (k : Nat) (n : Int) (w : World) (hk : k ≤ 4) :
    Calls Try.prog 139 #[.bool big, .int .i64 k, .int .i64 n] w fun e w' => e = .returned (.string (ordB big k n)) ∧ Below w.heap.size w w' :=
  put139_walk big k n _ w hk rfl (fun w => by
    have := turned38_any (leB k n) w (by rw [leB_size]; omega)
    rw [leB_back] at this
    exact this)

set_option maxHeartbeats 1600000 in
set_option maxRecDepth 100000 in
theorem get136_no (big : Bool) (k : Nat) (s : ByteArray) (w : World) (hs : s.size < k) :
    Calls Try.prog 136 #[.bool big, .int .i64 k, .string s] w fun e w' => e = .returned (.tuple #[.int .i64 0, .int .i64 2]) ∧ w' = w := by
  have hs' : (s.size : Int) < k := by omega
  go_enter Try.func136, Try.ntmps136
  go_wp2_with fail
  go_ret2
  exact ⟨rfl, rfl⟩

set_option maxHeartbeats 1600000 in
set_option maxRecDepth 100000 in
theorem get136_walk (big : Bool) (k : Nat) (s R : ByteArray) (x : Int) (w : World) (hs : k ≤ s.size)
    (K38 : Hid (∀ w, Calls Try.prog 38 #[.string (s.extract 0 k)] w fun e w' => e = .returned (.string R) ∧ w' = w))
    (K76 : Hid (∀ w, Calls Try.prog 76 #[.string (if big then s.extract 0 k else R)] w fun e w' => e = .returned (.int .i64 x) ∧ w' = w)) :
    Calls Try.prog 136 #[.bool big, .int .i64 k, .string s] w fun e w' => e = .returned (.tuple #[.int .i64 x, .int .i64 0]) ∧ w' = w := by
  have hs' : (k : Int) ≤ s.size := by omega
  cases big with
  | true =>
    go_enter Try.func136, Try.ntmps136
    go_wp2_with fail
    refine (K76.out _).mono ?_
    rintro e w1 ⟨rfl, rfl⟩
    go_wp2_with fail
    go_ret2
    exact ⟨rfl, rfl⟩
  | false =>
    go_enter Try.func136, Try.ntmps136
    go_wp2_with fail
    refine (K38.out _).mono ?_
    rintro e w1 ⟨rfl, rfl⟩
    go_wp2_with fail
    refine (K76.out _).mono ?_
    rintro e w1 ⟨rfl, rfl⟩
    go_wp2_with fail
    go_ret2
    exact ⟨rfl, rfl⟩

/-- What the document's get tells. -/
def rgetE (k : Nat) (s : ByteArray) : Int := if s.size < k then 2 else 0
def rgetV (big : Bool) (k : Nat) (s : ByteArray) : Int := if s.size < k then 0 else beV (ordL big (s.data.toList.take k))

/-- miradorref13.get. -/
theorem get136_any (big : Bool) (k : Nat) (s : ByteArray) (w : World) (hk : k ≤ 4) :
    Calls Try.prog 136 #[.bool big, .int .i64 k, .string s] w fun e w' => e = .returned (.tuple #[.int .i64 (rgetV big k s), .int .i64 (rgetE k s)]) ∧ w' = w := by
  by_cases hs : s.size < k
  · have e1 : rgetV big k s = 0 := if_pos hs
    have e2 : rgetE k s = 2 := if_pos hs
    rw [e1, e2]
    exact get136_no big k s w hs
  · have e1 : rgetV big k s = beV (ordL big (s.data.toList.take k)) := if_neg hs
    have e2 : rgetE k s = 0 := if_neg hs
    have z : (s.extract 0 k).size = k := by rw [ByteArray.size_extract]; omega
    have el : (s.extract 0 k).data.toList = s.data.toList.take k := by rw [ByteArray.data_extract, Array.toList_extract, List.extract_eq_take_drop, List.drop_zero, Nat.sub_zero]
    rw [e1, e2]
    refine get136_walk big k s ⟨(s.extract 0 k).data.reverse⟩ _ w (by omega) (fun w => turned38_any _ w (by omega)) (fun w => ?_)
    cases big with
    | true =>
      refine (rint_any (s.extract 0 k) w (by omega)).mono ?_
      rintro e w' ⟨rfl, rfl⟩
      rw [el]
      exact ⟨rfl, rfl⟩
    | false =>
      refine (rint_any ⟨(s.extract 0 k).data.reverse⟩ w (by show (s.extract 0 k).data.reverse.size ≤ _; rw [Array.size_reverse]; show (s.extract 0 k).size ≤ _; omega)).mono ?_
      rintro e w' ⟨rfl, rfl⟩
      have er : (⟨(s.extract 0 k).data.reverse⟩ : ByteArray).data.toList = (s.data.toList.take k).reverse := by
        show (s.extract 0 k).data.reverse.toList = _
        rw [Array.toList_reverse, el]
      rw [er]
      exact ⟨rfl, rfl⟩

set_option maxHeartbeats 1600000 in
set_option maxRecDepth 100000 in
theorem rput94_walk (f : Fmt) (k : Nat) (n : Int) (T : ByteArray) (w : World) (hb : f.bits / 8 = k) (h0 : 0 ≤ f.bits) (h1 : f.bits ≤ 32)
    (K139 : Hid (∀ w, Calls Try.prog 139 #[.bool f.big, .int .i64 k, .int .i64 n] w fun e w' => e = .returned (.string T) ∧ Below w.heap.size w w')) :
    Calls Try.prog 94 #[fmtV f, .int .i64 n] w fun e w' => e = .returned (.string T) ∧ Below w.heap.size w w' := by
  have F0 := hide (Blk.new w 23 (fmtC f))
  have B0 := hide ((Below.refl w.heap.size w).alloc (Nat.le_refl _) (.cells (fmtC f) 23))
  go_enter Try.func94, Try.ntmps94
  go_upto_region 1 with fail
  generalize w.alloc (.cells (fmtC f) 23) = w0 at *
  have f0 : w0.cell? ⟨w.heap.size, 0, none⟩ = some (.int .i64 f.bits) := F0.out.cell 0
  have f2 : w0.cell? ⟨w.heap.size, 2, none⟩ = some (.bool f.big) := F0.out.cell 2
  go_wp2_with fail
  refine (K139.out _).mono ?_
  rintro e w1 ⟨rfl, hb1⟩
  have B1 := hide (B0.out.trans (hb1.mono B0.out.size))
  clear hb1
  go_wp2_with fail
  go_ret
  exact ⟨rfl, B1.out⟩

set_option maxHeartbeats 1600000 in
set_option maxRecDepth 100000 in
theorem rget91_walk (f : Fmt) (k : Nat) (s : ByteArray) (x y : Int) (w : World) (hb : f.bits / 8 = k) (h0 : 0 ≤ f.bits) (h1 : f.bits ≤ 32)
    (K136 : Hid (∀ w, Calls Try.prog 136 #[.bool f.big, .int .i64 k, .string s] w fun e w' => e = .returned (.tuple #[.int .i64 x, .int .i64 y]) ∧ w' = w)) :
    Calls Try.prog 91 #[fmtV f, .string s] w fun e w' => e = .returned (.tuple #[.int .i64 x, .int .i64 y]) ∧ Below w.heap.size w w' := by
  have F0 := hide (Blk.new w 23 (fmtC f))
  have B0 := hide ((Below.refl w.heap.size w).alloc (Nat.le_refl _) (.cells (fmtC f) 23))
  go_enter Try.func91, Try.ntmps91
  go_upto_region 1 with fail
  generalize w.alloc (.cells (fmtC f) 23) = w0 at *
  have f0 : w0.cell? ⟨w.heap.size, 0, none⟩ = some (.int .i64 f.bits) := F0.out.cell 0
  have f2 : w0.cell? ⟨w.heap.size, 2, none⟩ = some (.bool f.big) := F0.out.cell 2
  go_wp2_with fail
  refine (K136.out _).mono ?_
  rintro e w1 ⟨rfl, rfl⟩
  go_wp2_with fail
  go_ret2
  exact ⟨rfl, B0.out⟩

theorem bits_bd {f : Fmt} (h : validB f = true) : f.bits / 8 = sizeN f ∧ 0 ≤ f.bits ∧ f.bits ≤ 32 := by
  obtain ⟨hb, _⟩ := valid_parts h
  obtain ⟨hs, _⟩ := size_valid h
  exact ⟨hs.symm, by omega, by omega⟩

/-- miradorref13.Put. -/
theorem rput94_any (f : Fmt) (n : Int) (w : World) (h : validB f = true) : Calls Try.prog 94 #[fmtV f, .int .i64 n] w fun e w' => e = .returned (.string (putV f n)) ∧ Below w.heap.size w w' := by
  obtain ⟨h1, h2, h3⟩ := bits_bd h
  rw [putV_eq]
  exact rput94_walk f _ n _ w h1 h2 h3 (fun w => put139_any f.big _ n w (size_le f))

/-- miradorref13.Get. -/
theorem rget91_any (f : Fmt) (s : ByteArray) (w : World) (h : validB f = true) :
    Calls Try.prog 91 #[fmtV f, .string s] w fun e w' => e = .returned (.tuple #[.int .i64 (getV f (sizeN f) s), .int .i64 (getE f (sizeN f) s)]) ∧ Below w.heap.size w w' := by
  obtain ⟨h1, h2, h3⟩ := bits_bd h
  have e1 : getE f (sizeN f) s = rgetE (sizeN f) s := by unfold getE rgetE; rw [if_pos h]
  have e2 : getV f (sizeN f) s = rgetV f.big (sizeN f) s := by
    unfold getV rgetV
    rw [e1]
    unfold rgetE
    by_cases hs : s.size < sizeN f
    · simp [hs]
    · simp [hs]
  rw [e1, e2]
  exact rget91_walk f _ s _ _ w h1 h2 h3 (fun w => get136_any f.big _ s w (size_le f))

end Go.Proofs.Ytodlpofpeoiedaa
