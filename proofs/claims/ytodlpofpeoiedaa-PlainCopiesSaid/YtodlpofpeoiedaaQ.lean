/-
  The contract of miradorref13.Parse.
-/
import Derived.Test.YtodlpofpeoiedaaO3
import Derived.Test.YtodlpofpeoiedaaU
namespace Go.Proofs.Ytodlpofpeoiedaa
open Go.RowKit

theorem rint_eq (s : ByteArray) (v : Int) (w : World) (hs : Hid (s.size ≤ 7)) (hv : Hid (v = beV s.data.toList)) :
    Calls Try.prog 76 #[.string s] w fun e w' => e = .returned (.int .i64 v) ∧ w' = w := by
  rw [hv.out]
  exact (rint_any s w hs.out).mono fun _ _ ⟨h1, h2⟩ => ⟨h1, h2.symm⟩

theorem ext2_size (s : ByteArray) (i : Nat) : (s.extract i (i + 2)).size ≤ 7 := by rw [ByteArray.size_extract]; omega

set_option maxHeartbeats 8000000 in
set_option maxRecDepth 100000 in
theorem rparse_long (s : ByteArray) (x4 x6 x8 b0 b1 b2 b3 b10 b11 b12 : Int) (V : Bool) (w : World) (h16 : 16 ≤ s.size) (hs : s.size ≤ 1099511627776)
    (C4 : Hid (∀ w, Calls Try.prog 76 #[.string (s.extract 4 6)] w fun e w' => e = .returned (.int .i64 x4) ∧ w' = w))
    (C6 : Hid (∀ w, Calls Try.prog 76 #[.string (s.extract 6 8)] w fun e w' => e = .returned (.int .i64 x6) ∧ w' = w))
    (C8 : Hid (∀ w, Calls Try.prog 76 #[.string (s.extract 8 10)] w fun e w' => e = .returned (.int .i64 x8) ∧ w' = w))
    (CV : Hid (∀ w, Calls Try.prog 18 #[.agg #[.int .i64 b0, .int .i64 b1, .bool (b2 != 0), .bool (b3 != 0), .int .i64 x4, .int .i64 x6, .int .i64 x8, .int .i64 b10, .int .i64 b11, .int .i64 b12]] w fun e w' => e = .returned (.bool V) ∧ Below w.heap.size w w'))
    (y0 : ∀ h : 0 < s.size, ((s[0]'h).toNat : Int) = b0) (y1 : ∀ h : 1 < s.size, ((s[1]'h).toNat : Int) = b1) (y2 : ∀ h : 2 < s.size, ((s[2]'h).toNat : Int) = b2) (y3 : ∀ h : 3 < s.size, ((s[3]'h).toNat : Int) = b3) (y10 : ∀ h : 10 < s.size, ((s[10]'h).toNat : Int) = b10) (y11 : ∀ h : 11 < s.size, ((s[11]'h).toNat : Int) = b11) (y12 : ∀ h : 12 < s.size, ((s[12]'h).toNat : Int) = b12) (u0 : IntKind.i64.wrap b0 = b0) (u1 : IntKind.i64.wrap b1 = b1) (u10 : IntKind.i64.wrap b10 = b10) (u11 : IntKind.i64.wrap b11 = b11) (u12 : IntKind.i64.wrap b12 = b12) :
    Calls Try.prog 16 #[.string s] w fun e w' => e = .returned (.tuple #[.agg (if V = true then #[.int .i64 b0, .int .i64 b1, .bool (b2 != 0), .bool (b3 != 0), .int .i64 x4, .int .i64 x6, .int .i64 x8, .int .i64 b10, .int .i64 b11, .int .i64 b12] else #[.int .i64 0, .int .i64 0, .bool false, .bool false, .int .i64 0, .int .i64 0, .int .i64 0, .int .i64 0, .int .i64 0, .int .i64 0]), .int .i64 (if V = true then 0 else 130)]) ∧ Below w.heap.size w w' := by
  have s4 : (6 : Int) ≤ s.size := by omega
  have s6 : (8 : Int) ≤ s.size := by omega
  have s8 : (10 : Int) ≤ s.size := by omega
  have q0 : (0 < s.size) = True := eq_true (by omega)
  have r0 : ((0 : Int) < (s.size : Int)) = True := eq_true (by omega)
  have q1 : (1 < s.size) = True := eq_true (by omega)
  have r1 : ((1 : Int) < (s.size : Int)) = True := eq_true (by omega)
  have q2 : (2 < s.size) = True := eq_true (by omega)
  have r2 : ((2 : Int) < (s.size : Int)) = True := eq_true (by omega)
  have q3 : (3 < s.size) = True := eq_true (by omega)
  have r3 : ((3 : Int) < (s.size : Int)) = True := eq_true (by omega)
  have q10 : (10 < s.size) = True := eq_true (by omega)
  have r10 : ((10 : Int) < (s.size : Int)) = True := eq_true (by omega)
  have q11 : (11 < s.size) = True := eq_true (by omega)
  have r11 : ((11 : Int) < (s.size : Int)) = True := eq_true (by omega)
  have q12 : (12 < s.size) = True := eq_true (by omega)
  have r12 : ((12 : Int) < (s.size : Int)) = True := eq_true (by omega)
  go_enter Try.func16, Try.ntmps16
  go_wp2_with fail
  refine plan_region [(0, true), (1, true), (2, true), (3, true), (4, true), (5, true), (6, true), (7, true), (8, true), (9, true), (10, true), (11, true), (12, true), (13, true), (14, true), (15, true), (16, true), (17, true), (18, true), (19, true), (20, true), (21, true), (22, true), (23, true), (24, true), (25, true), (26, true), (27, true), (28, true), (29, true), (30, true), (31, false), (32, false)] (fun _ => True) [] rfl (by kernel_rfl) (fun _ _ d _ _ h => by cases d <;> exact h) ?_
  refine plan_v (i := 0) (N := (some 10)) (v := ?v0) (a' := ?b0) rfl rfl trivial (by rfl) ?hy0 ?ha0 ?_
  case hy0 =>
    intro w' hS'
    go_simp
    with_reducible rfl
  case ha0 =>
    simp only [Act.put, List.setIfInBounds_toArray, List.set_cons_zero, List.set_cons_succ]
    rfl
  refine plan_v (i := 1) (N := (some 11)) (v := ?v1) (a' := ?b1) rfl rfl trivial (by rfl) ?hy1 ?ha1 ?_
  case hy1 =>
    intro w' hS'
    go_simp
    with_reducible rfl
  case ha1 =>
    simp only [Act.put, List.setIfInBounds_toArray, List.set_cons_zero, List.set_cons_succ]
    rfl
  refine plan_v (i := 2) (N := (some 12)) (v := ?v2) (a' := ?b2) rfl rfl trivial (by rfl) ?hy2 ?ha2 ?_
  case hy2 =>
    intro w' hS'
    go_simp
    with_reducible rfl
  case ha2 =>
    simp only [Act.put, List.setIfInBounds_toArray, List.set_cons_zero, List.set_cons_succ]
    rfl
  refine plan_v (i := 3) (N := (some 13)) (v := ?v3) (a' := ?b3) rfl rfl trivial (by rfl) ?hy3 ?ha3 ?_
  case hy3 =>
    intro w' hS'
    go_simp
    with_reducible rfl
  case ha3 =>
    simp only [Act.put, List.setIfInBounds_toArray, List.set_cons_zero, List.set_cons_succ]
    rfl
  refine plan_v (i := 4) (N := (some 14)) (v := ?v4) (a' := ?b4) rfl rfl trivial (by rfl) ?hy4 ?ha4 ?_
  case hy4 =>
    intro w' hS'
    go_simp
    with_reducible rfl
  case ha4 =>
    simp only [Act.put, List.setIfInBounds_toArray, List.set_cons_zero, List.set_cons_succ]
    rfl
  refine plan_v (i := 5) (N := (some 15)) (v := ?v5) (a' := ?b5) rfl rfl trivial (by rfl) ?hy5 ?ha5 ?_
  case hy5 =>
    intro w' hS'
    go_simp
    with_reducible rfl
  case ha5 =>
    simp only [Act.put, List.setIfInBounds_toArray, List.set_cons_zero, List.set_cons_succ]
    rfl
  refine plan_v (i := 6) (N := (some 16)) (v := ?v6) (a' := ?b6) rfl rfl trivial (by rfl) ?hy6 ?ha6 ?_
  case hy6 =>
    intro w' hS'
    go_simp
    with_reducible rfl
  case ha6 =>
    simp only [Act.put, List.setIfInBounds_toArray, List.set_cons_zero, List.set_cons_succ]
    rfl
  refine plan_v (i := 7) (N := (some 17)) (v := ?v7) (a' := ?b7) rfl rfl trivial (by rfl) ?hy7 ?ha7 ?_
  case hy7 =>
    intro w' hS'
    go_simp
    with_reducible rfl
  case ha7 =>
    simp only [Act.put, List.setIfInBounds_toArray, List.set_cons_zero, List.set_cons_succ]
    rfl
  refine plan_v (i := 8) (N := (some 18)) (v := ?v8) (a' := ?b8) rfl rfl trivial (by rfl) ?hy8 ?ha8 ?_
  case hy8 =>
    intro w' hS'
    go_simp
    with_reducible rfl
  case ha8 =>
    simp only [Act.put, List.setIfInBounds_toArray, List.set_cons_zero, List.set_cons_succ]
    rfl
  refine plan_v (i := 9) (N := (some 19)) (v := ?v9) (a' := ?b9) rfl rfl trivial (by rfl) ?hy9 ?ha9 ?_
  case hy9 =>
    intro w' hS'
    go_simp
    with_reducible rfl
  case ha9 =>
    simp only [Act.put, List.setIfInBounds_toArray, List.set_cons_zero, List.set_cons_succ]
    rfl
  refine plan_v (i := 10) (N := (some 20)) (v := ?v10) (a' := ?b10) rfl rfl trivial (by rfl) ?hy10 ?ha10 ?_
  case hy10 =>
    intro w' hS'
    go_simp
    with_reducible rfl
  case ha10 =>
    simp only [Act.put, List.setIfInBounds_toArray, List.set_cons_zero, List.set_cons_succ]
    rfl
  refine plan_v (i := 11) (N := (some 21)) (v := ?v11) (a' := ?b11) rfl rfl trivial (by rfl) ?hy11 ?ha11 ?_
  case hy11 =>
    intro w' hS'
    go_simp
    with_reducible rfl
  case ha11 =>
    simp only [Act.put, List.setIfInBounds_toArray, List.set_cons_zero, List.set_cons_succ]
    rfl
  refine plan_v (i := 12) (N := (some 22)) (v := ?v12) (a' := ?b12) rfl rfl trivial (by rfl) ?hy12 ?ha12 ?_
  case hy12 =>
    intro w' hS'
    go_simp
    with_reducible rfl
  case ha12 =>
    simp only [Act.put, List.setIfInBounds_toArray, List.set_cons_zero, List.set_cons_succ]
    rfl
  refine plan_v (i := 13) (N := (some 23)) (v := ?v13) (a' := ?b13) rfl rfl trivial (by rfl) ?hy13 ?ha13 ?_
  case hy13 =>
    intro w' hS'
    go_simp
    with_reducible rfl
  case ha13 =>
    simp only [Act.put, List.setIfInBounds_toArray, List.set_cons_zero, List.set_cons_succ]
    rfl
  refine plan_c (i := 14) (N := (some 24)) (v := .int .i64 x4) (f := 76) (args := #[.string (s.extract 4 6)]) (a' := ?b14) rfl rfl trivial (by rfl) ?hy14 (fun w' hS' => C4.out w') ?ha14 ?_
  case hy14 =>
    intro w' hS'
    go_simp
  case ha14 =>
    simp only [Act.put, List.setIfInBounds_toArray, List.set_cons_zero, List.set_cons_succ]
    rfl
  refine plan_v (i := 15) (N := (some 25)) (v := ?v15) (a' := ?b15) rfl rfl trivial (by rfl) ?hy15 ?ha15 ?_
  case hy15 =>
    intro w' hS'
    go_simp
    with_reducible rfl
  case ha15 =>
    simp only [Act.put, List.setIfInBounds_toArray, List.set_cons_zero, List.set_cons_succ]
    rfl
  refine plan_v (i := 16) (N := (some 26)) (v := ?v16) (a' := ?b16) rfl rfl trivial (by rfl) ?hy16 ?ha16 ?_
  case hy16 =>
    intro w' hS'
    go_simp
    with_reducible rfl
  case ha16 =>
    simp only [Act.put, List.setIfInBounds_toArray, List.set_cons_zero, List.set_cons_succ]
    rfl
  refine plan_c (i := 17) (N := (some 27)) (v := .int .i64 x6) (f := 76) (args := #[.string (s.extract 6 8)]) (a' := ?b17) rfl rfl trivial (by rfl) ?hy17 (fun w' hS' => C6.out w') ?ha17 ?_
  case hy17 =>
    intro w' hS'
    go_simp
  case ha17 =>
    simp only [Act.put, List.setIfInBounds_toArray, List.set_cons_zero, List.set_cons_succ]
    rfl
  refine plan_v (i := 18) (N := (some 28)) (v := ?v18) (a' := ?b18) rfl rfl trivial (by rfl) ?hy18 ?ha18 ?_
  case hy18 =>
    intro w' hS'
    go_simp
    with_reducible rfl
  case ha18 =>
    simp only [Act.put, List.setIfInBounds_toArray, List.set_cons_zero, List.set_cons_succ]
    rfl
  refine plan_v (i := 19) (N := (some 29)) (v := ?v19) (a' := ?b19) rfl rfl trivial (by rfl) ?hy19 ?ha19 ?_
  case hy19 =>
    intro w' hS'
    go_simp
    with_reducible rfl
  case ha19 =>
    simp only [Act.put, List.setIfInBounds_toArray, List.set_cons_zero, List.set_cons_succ]
    rfl
  refine plan_c (i := 20) (N := (some 30)) (v := .int .i64 x8) (f := 76) (args := #[.string (s.extract 8 10)]) (a' := ?b20) rfl rfl trivial (by rfl) ?hy20 (fun w' hS' => C8.out w') ?ha20 ?_
  case hy20 =>
    intro w' hS'
    go_simp
  case ha20 =>
    simp only [Act.put, List.setIfInBounds_toArray, List.set_cons_zero, List.set_cons_succ]
    rfl
  refine plan_v (i := 21) (N := (some 31)) (v := ?v21) (a' := ?b21) rfl rfl trivial (by rfl) ?hy21 ?ha21 ?_
  case hy21 =>
    intro w' hS'
    go_simp
    with_reducible rfl
  case ha21 =>
    simp only [Act.put, List.setIfInBounds_toArray, List.set_cons_zero, List.set_cons_succ]
    rfl
  refine plan_v (i := 22) (N := (some 32)) (v := ?v22) (a' := ?b22) rfl rfl trivial (by rfl) ?hy22 ?ha22 ?_
  case hy22 =>
    intro w' hS'
    go_simp
    with_reducible rfl
  case ha22 =>
    simp only [Act.put, List.setIfInBounds_toArray, List.set_cons_zero, List.set_cons_succ]
    rfl
  refine plan_v (i := 23) (N := (some 33)) (v := ?v23) (a' := ?b23) rfl rfl trivial (by rfl) ?hy23 ?ha23 ?_
  case hy23 =>
    intro w' hS'
    go_simp
    with_reducible rfl
  case ha23 =>
    simp only [Act.put, List.setIfInBounds_toArray, List.set_cons_zero, List.set_cons_succ]
    rfl
  refine plan_v (i := 24) (N := (some 34)) (v := ?v24) (a' := ?b24) rfl rfl trivial (by rfl) ?hy24 ?ha24 ?_
  case hy24 =>
    intro w' hS'
    go_simp
    with_reducible rfl
  case ha24 =>
    simp only [Act.put, List.setIfInBounds_toArray, List.set_cons_zero, List.set_cons_succ]
    rfl
  refine plan_v (i := 25) (N := (some 35)) (v := ?v25) (a' := ?b25) rfl rfl trivial (by rfl) ?hy25 ?ha25 ?_
  case hy25 =>
    intro w' hS'
    go_simp
    with_reducible rfl
  case ha25 =>
    simp only [Act.put, List.setIfInBounds_toArray, List.set_cons_zero, List.set_cons_succ]
    rfl
  refine plan_v (i := 26) (N := (some 36)) (v := ?v26) (a' := ?b26) rfl rfl trivial (by rfl) ?hy26 ?ha26 ?_
  case hy26 =>
    intro w' hS'
    go_simp
    with_reducible rfl
  case ha26 =>
    simp only [Act.put, List.setIfInBounds_toArray, List.set_cons_zero, List.set_cons_succ]
    rfl
  refine plan_v (i := 27) (N := (some 37)) (v := ?v27) (a' := ?b27) rfl rfl trivial (by rfl) ?hy27 ?ha27 ?_
  case hy27 =>
    intro w' hS'
    go_simp
    with_reducible rfl
  case ha27 =>
    simp only [Act.put, List.setIfInBounds_toArray, List.set_cons_zero, List.set_cons_succ]
    rfl
  refine plan_v (i := 28) (N := (some 38)) (v := ?v28) (a' := ?b28) rfl rfl trivial (by rfl) ?hy28 ?ha28 ?_
  case hy28 =>
    intro w' hS'
    go_simp
    with_reducible rfl
  case ha28 =>
    simp only [Act.put, List.setIfInBounds_toArray, List.set_cons_zero, List.set_cons_succ]
    rfl
  refine plan_v (i := 29) (N := (some 39)) (v := ?v29) (a' := ?b29) rfl rfl trivial (by rfl) ?hy29 ?ha29 ?_
  case hy29 =>
    intro w' hS'
    go_simp
    with_reducible rfl
  case ha29 =>
    simp only [Act.put, List.setIfInBounds_toArray, List.set_cons_zero, List.set_cons_succ]
    rfl
  refine plan_v (i := 30) (N := (some 40)) (v := ?v30) (a' := ?b30) rfl rfl trivial (by rfl) ?hy30 ?ha30 ?_
  case hy30 =>
    intro w' hS'
    go_simp
    with_reducible rfl
  case ha30 =>
    simp only [Act.put, List.setIfInBounds_toArray, List.set_cons_zero, List.set_cons_succ]
    rfl
  refine plan_e (i := 31) rfl (by rfl) (fun K hK => ?_)
  go_simp
  refine hK _ _ (fun _ => trivial) ?_
  clear hK K
  refine plan_e (i := 32) rfl (by rfl) (fun K hK => ?_)
  go_simp
  refine hK _ _ (fun _ => trivial) ?_
  clear hK K
  refine plan_done ?_
  go_wp2_with fail
  refine (CV.out _).mono ?_
  rintro e w1 ⟨rfl, hb1⟩
  have R1 := hide (show Blk w.heap.size 23 #[.int .i64 0, .int .i64 0, .bool false, .bool false, .int .i64 0, .int .i64 0, .int .i64 0, .int .i64 0, .int .i64 0, .int .i64 0] w1 from Blk.below (by exact (Blk.new w 23 #[.int .i64 0, .int .i64 0, .bool false, .bool false, .int .i64 0, .int .i64 0, .int .i64 0, .int .i64 0, .int .i64 0, .int .i64 0]).alloc (.cells #[.int .i64 b0, .int .i64 b1, .bool (b2 != 0), .bool (b3 != 0), .int .i64 x4, .int .i64 x6, .int .i64 x8, .int .i64 b10, .int .i64 b11, .int .i64 b12] 23)) hb1)
  have F1 := hide (show Blk (w.heap.size + 1) 23 #[.int .i64 b0, .int .i64 b1, .bool (b2 != 0), .bool (b3 != 0), .int .i64 x4, .int .i64 x6, .int .i64 x8, .int .i64 b10, .int .i64 b11, .int .i64 b12] w1 from by
    have h : Blk (w.alloc (.cells #[.int .i64 0, .int .i64 0, .bool false, .bool false, .int .i64 0, .int .i64 0, .int .i64 0, .int .i64 0, .int .i64 0, .int .i64 0] 23)).heap.size 23 #[.int .i64 b0, .int .i64 b1, .bool (b2 != 0), .bool (b3 != 0), .int .i64 x4, .int .i64 x6, .int .i64 x8, .int .i64 b10, .int .i64 b11, .int .i64 b12] w1 := Blk.below (by exact Blk.new (w.alloc (.cells #[.int .i64 0, .int .i64 0, .bool false, .bool false, .int .i64 0, .int .i64 0, .int .i64 0, .int .i64 0, .int .i64 0, .int .i64 0] 23)) 23 #[.int .i64 b0, .int .i64 b1, .bool (b2 != 0), .bool (b3 != 0), .int .i64 x4, .int .i64 x6, .int .i64 x8, .int .i64 b10, .int .i64 b11, .int .i64 b12]) hb1
    rwa [World.size_alloc] at h)
  have B1 : Hid (Below w.heap.size w w1) := by
    refine hide (Below.trans ?_ (hb1.mono ?_))
    · exact (((Below.refl _ _).alloc (Nat.le_refl _) _).alloc (by rw [World.size_alloc]; exact Nat.le_succ _) _).drew
    · simp [World.size_alloc]
      omega
  clear hb1
  have g0 : w1.cell? ⟨w.heap.size, 0, none⟩ = some (.int .i64 0) := R1.out.cell 0
  have p0 : w1.frozen? ⟨w.heap.size, 0, none⟩ = false := R1.out.fr 0
  have g1 : w1.cell? ⟨w.heap.size, 1, none⟩ = some (.int .i64 0) := R1.out.cell 1
  have p1 : w1.frozen? ⟨w.heap.size, 1, none⟩ = false := R1.out.fr 1
  have g2 : w1.cell? ⟨w.heap.size, 2, none⟩ = some (.bool false) := R1.out.cell 2
  have p2 : w1.frozen? ⟨w.heap.size, 2, none⟩ = false := R1.out.fr 2
  have g3 : w1.cell? ⟨w.heap.size, 3, none⟩ = some (.bool false) := R1.out.cell 3
  have p3 : w1.frozen? ⟨w.heap.size, 3, none⟩ = false := R1.out.fr 3
  have g4 : w1.cell? ⟨w.heap.size, 4, none⟩ = some (.int .i64 0) := R1.out.cell 4
  have p4 : w1.frozen? ⟨w.heap.size, 4, none⟩ = false := R1.out.fr 4
  have g5 : w1.cell? ⟨w.heap.size, 5, none⟩ = some (.int .i64 0) := R1.out.cell 5
  have p5 : w1.frozen? ⟨w.heap.size, 5, none⟩ = false := R1.out.fr 5
  have g6 : w1.cell? ⟨w.heap.size, 6, none⟩ = some (.int .i64 0) := R1.out.cell 6
  have p6 : w1.frozen? ⟨w.heap.size, 6, none⟩ = false := R1.out.fr 6
  have g7 : w1.cell? ⟨w.heap.size, 7, none⟩ = some (.int .i64 0) := R1.out.cell 7
  have p7 : w1.frozen? ⟨w.heap.size, 7, none⟩ = false := R1.out.fr 7
  have g8 : w1.cell? ⟨w.heap.size, 8, none⟩ = some (.int .i64 0) := R1.out.cell 8
  have p8 : w1.frozen? ⟨w.heap.size, 8, none⟩ = false := R1.out.fr 8
  have g9 : w1.cell? ⟨w.heap.size, 9, none⟩ = some (.int .i64 0) := R1.out.cell 9
  have p9 : w1.frozen? ⟨w.heap.size, 9, none⟩ = false := R1.out.fr 9
  have f0 : w1.cell? ⟨w.heap.size + 1, 0, none⟩ = some (.int .i64 b0) := F1.out.cell 0
  have h0 : w1.frozen? ⟨w.heap.size + 1, 0, none⟩ = false := F1.out.fr 0
  have f1 : w1.cell? ⟨w.heap.size + 1, 1, none⟩ = some (.int .i64 b1) := F1.out.cell 1
  have h1 : w1.frozen? ⟨w.heap.size + 1, 1, none⟩ = false := F1.out.fr 1
  have f2 : w1.cell? ⟨w.heap.size + 1, 2, none⟩ = some (.bool (b2 != 0)) := F1.out.cell 2
  have h2 : w1.frozen? ⟨w.heap.size + 1, 2, none⟩ = false := F1.out.fr 2
  have f3 : w1.cell? ⟨w.heap.size + 1, 3, none⟩ = some (.bool (b3 != 0)) := F1.out.cell 3
  have h3 : w1.frozen? ⟨w.heap.size + 1, 3, none⟩ = false := F1.out.fr 3
  have f4 : w1.cell? ⟨w.heap.size + 1, 4, none⟩ = some (.int .i64 x4) := F1.out.cell 4
  have h4 : w1.frozen? ⟨w.heap.size + 1, 4, none⟩ = false := F1.out.fr 4
  have f5 : w1.cell? ⟨w.heap.size + 1, 5, none⟩ = some (.int .i64 x6) := F1.out.cell 5
  have h5 : w1.frozen? ⟨w.heap.size + 1, 5, none⟩ = false := F1.out.fr 5
  have f6 : w1.cell? ⟨w.heap.size + 1, 6, none⟩ = some (.int .i64 x8) := F1.out.cell 6
  have h6 : w1.frozen? ⟨w.heap.size + 1, 6, none⟩ = false := F1.out.fr 6
  have f7 : w1.cell? ⟨w.heap.size + 1, 7, none⟩ = some (.int .i64 b10) := F1.out.cell 7
  have h7 : w1.frozen? ⟨w.heap.size + 1, 7, none⟩ = false := F1.out.fr 7
  have f8 : w1.cell? ⟨w.heap.size + 1, 8, none⟩ = some (.int .i64 b11) := F1.out.cell 8
  have h8 : w1.frozen? ⟨w.heap.size + 1, 8, none⟩ = false := F1.out.fr 8
  have f9 : w1.cell? ⟨w.heap.size + 1, 9, none⟩ = some (.int .i64 b12) := F1.out.cell 9
  have h9 : w1.frozen? ⟨w.heap.size + 1, 9, none⟩ = false := F1.out.fr 9
  cases V with
  | true =>
    go_wp2_with fail
    have RF0 := hide (show Blk w.heap.size 23 #[.int .i64 b0, .int .i64 0, .bool false, .bool false, .int .i64 0, .int .i64 0, .int .i64 0, .int .i64 0, .int .i64 0, .int .i64 0] _ from R1.out.set 0 (.int .i64 b0))
    have RF1 := hide (show Blk w.heap.size 23 #[.int .i64 b0, .int .i64 b1, .bool false, .bool false, .int .i64 0, .int .i64 0, .int .i64 0, .int .i64 0, .int .i64 0, .int .i64 0] _ from RF0.out.set 1 (.int .i64 b1))
    have RF2 := hide (show Blk w.heap.size 23 #[.int .i64 b0, .int .i64 b1, .bool (b2 != 0), .bool false, .int .i64 0, .int .i64 0, .int .i64 0, .int .i64 0, .int .i64 0, .int .i64 0] _ from RF1.out.set 2 (.bool (b2 != 0)))
    have RF3 := hide (show Blk w.heap.size 23 #[.int .i64 b0, .int .i64 b1, .bool (b2 != 0), .bool (b3 != 0), .int .i64 0, .int .i64 0, .int .i64 0, .int .i64 0, .int .i64 0, .int .i64 0] _ from RF2.out.set 3 (.bool (b3 != 0)))
    have RF4 := hide (show Blk w.heap.size 23 #[.int .i64 b0, .int .i64 b1, .bool (b2 != 0), .bool (b3 != 0), .int .i64 x4, .int .i64 0, .int .i64 0, .int .i64 0, .int .i64 0, .int .i64 0] _ from RF3.out.set 4 (.int .i64 x4))
    have RF5 := hide (show Blk w.heap.size 23 #[.int .i64 b0, .int .i64 b1, .bool (b2 != 0), .bool (b3 != 0), .int .i64 x4, .int .i64 x6, .int .i64 0, .int .i64 0, .int .i64 0, .int .i64 0] _ from RF4.out.set 5 (.int .i64 x6))
    have RF6 := hide (show Blk w.heap.size 23 #[.int .i64 b0, .int .i64 b1, .bool (b2 != 0), .bool (b3 != 0), .int .i64 x4, .int .i64 x6, .int .i64 x8, .int .i64 0, .int .i64 0, .int .i64 0] _ from RF5.out.set 6 (.int .i64 x8))
    have RF7 := hide (show Blk w.heap.size 23 #[.int .i64 b0, .int .i64 b1, .bool (b2 != 0), .bool (b3 != 0), .int .i64 x4, .int .i64 x6, .int .i64 x8, .int .i64 b10, .int .i64 0, .int .i64 0] _ from RF6.out.set 7 (.int .i64 b10))
    have RF8 := hide (show Blk w.heap.size 23 #[.int .i64 b0, .int .i64 b1, .bool (b2 != 0), .bool (b3 != 0), .int .i64 x4, .int .i64 x6, .int .i64 x8, .int .i64 b10, .int .i64 b11, .int .i64 0] _ from RF7.out.set 8 (.int .i64 b11))
    have RF9 := hide (show Blk w.heap.size 23 #[.int .i64 b0, .int .i64 b1, .bool (b2 != 0), .bool (b3 != 0), .int .i64 x4, .int .i64 x6, .int .i64 x8, .int .i64 b10, .int .i64 b11, .int .i64 b12] _ from RF8.out.set 9 (.int .i64 b12))
    exact bodyPost_ret (results_at Try.results16 _ rfl RF9.out Try.underlying23 rfl (by kernel_rfl)) rfl ⟨rfl, ((((((((((B1.out.setCell (p := ⟨w.heap.size, 0, none⟩) (Nat.le_refl _) _).setCell (p := ⟨w.heap.size, 1, none⟩) (Nat.le_refl _) _).setCell (p := ⟨w.heap.size, 2, none⟩) (Nat.le_refl _) _).setCell (p := ⟨w.heap.size, 3, none⟩) (Nat.le_refl _) _).setCell (p := ⟨w.heap.size, 4, none⟩) (Nat.le_refl _) _).setCell (p := ⟨w.heap.size, 5, none⟩) (Nat.le_refl _) _).setCell (p := ⟨w.heap.size, 6, none⟩) (Nat.le_refl _) _).setCell (p := ⟨w.heap.size, 7, none⟩) (Nat.le_refl _) _).setCell (p := ⟨w.heap.size, 8, none⟩) (Nat.le_refl _) _).setCell (p := ⟨w.heap.size, 9, none⟩) (Nat.le_refl _) _)⟩
  | false =>
    go_wp2_with fail
    have RF0 := hide (show Blk w.heap.size 23 #[.int .i64 0, .int .i64 0, .bool false, .bool false, .int .i64 0, .int .i64 0, .int .i64 0, .int .i64 0, .int .i64 0, .int .i64 0] _ from R1.out.set 0 (.int .i64 0))
    have RF1 := hide (show Blk w.heap.size 23 #[.int .i64 0, .int .i64 0, .bool false, .bool false, .int .i64 0, .int .i64 0, .int .i64 0, .int .i64 0, .int .i64 0, .int .i64 0] _ from RF0.out.set 1 (.int .i64 0))
    have RF2 := hide (show Blk w.heap.size 23 #[.int .i64 0, .int .i64 0, .bool false, .bool false, .int .i64 0, .int .i64 0, .int .i64 0, .int .i64 0, .int .i64 0, .int .i64 0] _ from RF1.out.set 2 (.bool false))
    have RF3 := hide (show Blk w.heap.size 23 #[.int .i64 0, .int .i64 0, .bool false, .bool false, .int .i64 0, .int .i64 0, .int .i64 0, .int .i64 0, .int .i64 0, .int .i64 0] _ from RF2.out.set 3 (.bool false))
    have RF4 := hide (show Blk w.heap.size 23 #[.int .i64 0, .int .i64 0, .bool false, .bool false, .int .i64 0, .int .i64 0, .int .i64 0, .int .i64 0, .int .i64 0, .int .i64 0] _ from RF3.out.set 4 (.int .i64 0))
    have RF5 := hide (show Blk w.heap.size 23 #[.int .i64 0, .int .i64 0, .bool false, .bool false, .int .i64 0, .int .i64 0, .int .i64 0, .int .i64 0, .int .i64 0, .int .i64 0] _ from RF4.out.set 5 (.int .i64 0))
    have RF6 := hide (show Blk w.heap.size 23 #[.int .i64 0, .int .i64 0, .bool false, .bool false, .int .i64 0, .int .i64 0, .int .i64 0, .int .i64 0, .int .i64 0, .int .i64 0] _ from RF5.out.set 6 (.int .i64 0))
    have RF7 := hide (show Blk w.heap.size 23 #[.int .i64 0, .int .i64 0, .bool false, .bool false, .int .i64 0, .int .i64 0, .int .i64 0, .int .i64 0, .int .i64 0, .int .i64 0] _ from RF6.out.set 7 (.int .i64 0))
    have RF8 := hide (show Blk w.heap.size 23 #[.int .i64 0, .int .i64 0, .bool false, .bool false, .int .i64 0, .int .i64 0, .int .i64 0, .int .i64 0, .int .i64 0, .int .i64 0] _ from RF7.out.set 8 (.int .i64 0))
    have RF9 := hide (show Blk w.heap.size 23 #[.int .i64 0, .int .i64 0, .bool false, .bool false, .int .i64 0, .int .i64 0, .int .i64 0, .int .i64 0, .int .i64 0, .int .i64 0] _ from RF8.out.set 9 (.int .i64 0))
    exact bodyPost_ret (results_at Try.results16 _ rfl RF9.out Try.underlying23 rfl (by kernel_rfl)) rfl ⟨rfl, ((((((((((B1.out.setCell (p := ⟨w.heap.size, 0, none⟩) (Nat.le_refl _) _).setCell (p := ⟨w.heap.size, 1, none⟩) (Nat.le_refl _) _).setCell (p := ⟨w.heap.size, 2, none⟩) (Nat.le_refl _) _).setCell (p := ⟨w.heap.size, 3, none⟩) (Nat.le_refl _) _).setCell (p := ⟨w.heap.size, 4, none⟩) (Nat.le_refl _) _).setCell (p := ⟨w.heap.size, 5, none⟩) (Nat.le_refl _) _).setCell (p := ⟨w.heap.size, 6, none⟩) (Nat.le_refl _) _).setCell (p := ⟨w.heap.size, 7, none⟩) (Nat.le_refl _) _).setCell (p := ⟨w.heap.size, 8, none⟩) (Nat.le_refl _) _).setCell (p := ⟨w.heap.size, 9, none⟩) (Nat.le_refl _) _)⟩

end Go.Proofs.Ytodlpofpeoiedaa
