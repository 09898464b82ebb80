/-
  FormatBack: the walk.
-/
import Derived.Test.YtodlpofpeoiedaaAH1
import Derived.Test.YtodlpofpeoiedaaV
namespace Go.Proofs.Ytodlpofpeoiedaa
open Go.RowKit Go.Sort

set_option maxHeartbeats 6400000 in
set_option maxRecDepth 100000 in
theorem law8_walk (f : Fmt) (n v c P M : Int) (k S h : Nat) (tail BS A D : ByteArray) (w : World)
    (hB : BS.size = 16) (ht : tail.size ≤ 60) (hA : A.size = k) (hk : k ≤ 4) (hD : D.size = S) (hs : S ≤ 4)
    (hsh : ∀ w, (Op.shift .shl .i64 1 .i64 f.bits).run Try.prog w = .ok (.int .i64 P) w) (hM : IntKind.i64.wrap (P - 1) = M) (hv : bits .and .i64 n M = v) (hc0 : 0 ≤ c) (hcP : c < P)
    (K17 : Hid (∀ w, Calls Try.prog 17 #[.agg #[.int .i64 f.bits, .int .i64 f.depth, .bool f.big, .bool f.tru, .int .i64 f.rm, .int .i64 f.gm, .int .i64 f.bm, .int .i64 f.rs, .int .i64 f.gs, .int .i64 f.bs]] w fun e w' => e = .returned (.bool true) ∧ Below w.heap.size w w'))
    (K19 : Hid (∀ w, Calls Try.prog 19 #[.agg #[.int .i64 f.bits, .int .i64 f.depth, .bool f.big, .bool f.tru, .int .i64 f.rm, .int .i64 f.gm, .int .i64 f.bm, .int .i64 f.rs, .int .i64 f.gs, .int .i64 f.bs]] w fun e w' => e = .returned (.string BS) ∧ Below w.heap.size w w'))
    (K15 : Hid (∀ w, Calls Try.prog 15 #[.string (BS ++ tail)] w fun e w' => e = .returned (.tuple #[.agg #[.int .i64 f.bits, .int .i64 f.depth, .bool f.big, .bool f.tru, .int .i64 f.rm, .int .i64 f.gm, .int .i64 f.bm, .int .i64 f.rs, .int .i64 f.gs, .int .i64 f.bs], .int .i64 0]) ∧ Below w.heap.size w w'))
    (K36 : Hid (∀ w, Calls Try.prog 36 #[.agg #[.int .i64 f.bits, .int .i64 f.depth, .bool f.big, .bool f.tru, .int .i64 f.rm, .int .i64 f.gm, .int .i64 f.bm, .int .i64 f.rs, .int .i64 f.gs, .int .i64 f.bs], .int .i64 n] w fun e w' => e = .returned (.string A) ∧ Below w.heap.size w w'))
    (K41 : Hid (∀ w, Calls Try.prog 41 #[.agg #[.int .i64 f.bits, .int .i64 f.depth, .bool f.big, .bool f.tru, .int .i64 f.rm, .int .i64 f.gm, .int .i64 f.bm, .int .i64 f.rs, .int .i64 f.gs, .int .i64 f.bs], .string (A ++ tail)] w fun e w' => e = .returned (.tuple #[.int .i64 v, .int .i64 0]) ∧ Below w.heap.size w w'))
    (K39 : Hid (∀ w, Calls Try.prog 39 #[.agg #[.int .i64 f.bits, .int .i64 f.depth, .bool f.big, .bool f.tru, .int .i64 f.rm, .int .i64 f.gm, .int .i64 f.bm, .int .i64 f.rs, .int .i64 f.gs, .int .i64 f.bs], .int .i64 n] w fun e w' => e = .returned (.int .i64 c) ∧ Below w.heap.size w w'))
    (K37 : Hid (∀ w, Calls Try.prog 37 #[.agg #[.int .i64 f.bits, .int .i64 f.depth, .bool f.big, .bool f.tru, .int .i64 f.rm, .int .i64 f.gm, .int .i64 f.bm, .int .i64 f.rs, .int .i64 f.gs, .int .i64 f.bs], .int .i64 c] w fun e w' => e = .returned (.string D) ∧ Below w.heap.size w w'))
    (K42 : Hid (∀ w, Calls Try.prog 42 #[.agg #[.int .i64 f.bits, .int .i64 f.depth, .bool f.big, .bool f.tru, .int .i64 f.rm, .int .i64 f.gm, .int .i64 f.bm, .int .i64 f.rs, .int .i64 f.gs, .int .i64 f.bs], .string (D ++ tail)] w fun e w' => e = .returned (.tuple #[.int .i64 c, .int .i64 0]) ∧ Below w.heap.size w w'))
    (K43 : Hid (∀ w, Calls Try.prog 43 #[.agg #[.int .i64 f.bits, .int .i64 f.depth, .bool f.big, .bool f.tru, .int .i64 f.rm, .int .i64 f.gm, .int .i64 f.bm, .int .i64 f.rs, .int .i64 f.gs, .int .i64 f.bs]] w fun e w' => e = .returned (.tuple #[.int .i64 S, .int .i64 h]) ∧ Below w.heap.size w w'))
    (K27 : Hid (∀ w, Calls Try.prog 27 #[.agg #[.int .i64 f.bits, .int .i64 f.depth, .bool f.big, .bool f.tru, .int .i64 f.rm, .int .i64 f.gm, .int .i64 f.bm, .int .i64 f.rs, .int .i64 f.gs, .int .i64 f.bs]] w fun e w' => e = .returned (.int .i64 k) ∧ Below w.heap.size w w'))
    : Calls Try.prog 8 #[.agg #[.int .i64 f.bits, .int .i64 f.depth, .bool f.big, .bool f.tru, .int .i64 f.rm, .int .i64 f.gm, .int .i64 f.bm, .int .i64 f.rs, .int .i64 f.gs, .int .i64 f.bs], .int .i64 n, .string tail] w fun e w' => e = .returned (.bool true) ∧ Below w.heap.size w w' := by
  have ht' : (tail.size : Int) ≤ 60 := by omega
  have c1 : (9223372036854775807 < 16 + tail.size) = False := eq_false (by omega)
  have c2 : (9223372036854775807 < k + tail.size) = False := eq_false (by omega)
  have c3 : (9223372036854775807 < S + tail.size) = False := eq_false (by omega)
  have F0 := hide (Blk.new w 23 #[.int .i64 f.bits, .int .i64 f.depth, .bool f.big, .bool f.tru, .int .i64 f.rm, .int .i64 f.gm, .int .i64 f.bm, .int .i64 f.rs, .int .i64 f.gs, .int .i64 f.bs])
  have B0 := hide ((Below.refl w.heap.size w).alloc (Nat.le_refl _) (.cells #[.int .i64 f.bits, .int .i64 f.depth, .bool f.big, .bool f.tru, .int .i64 f.rm, .int .i64 f.gm, .int .i64 f.bm, .int .i64 f.rs, .int .i64 f.gs, .int .i64 f.bs] 23))
  go_enter Try.func8, Try.ntmps8
  go_upto_region 1 with fail
  generalize w.alloc (.cells #[.int .i64 f.bits, .int .i64 f.depth, .bool f.big, .bool f.tru, .int .i64 f.rm, .int .i64 f.gm, .int .i64 f.bm, .int .i64 f.rs, .int .i64 f.gs, .int .i64 f.bs] 23) = w0 at *
  go_wp2_with fail
  refine (works14_any _).mono ?_
  rintro e w1 ⟨rfl, hb1⟩
  have F1 := hide (F0.out.below hb1)
  have B1 := hide (B0.out.trans (hb1.mono B0.out.size))
  clear hb1
  have f0 : w1.cell? ⟨w.heap.size, 0, none⟩ = some (.int .i64 f.bits) := F1.out.cell 0
  have p0 : w1.frozen? ⟨w.heap.size, 0, none⟩ = false := F1.out.fr 0
  have f1 : w1.cell? ⟨w.heap.size, 1, none⟩ = some (.int .i64 f.depth) := F1.out.cell 1
  have p1 : w1.frozen? ⟨w.heap.size, 1, none⟩ = false := F1.out.fr 1
  have f2 : w1.cell? ⟨w.heap.size, 2, none⟩ = some (.bool f.big) := F1.out.cell 2
  have p2 : w1.frozen? ⟨w.heap.size, 2, none⟩ = false := F1.out.fr 2
  have f3 : w1.cell? ⟨w.heap.size, 3, none⟩ = some (.bool f.tru) := F1.out.cell 3
  have p3 : w1.frozen? ⟨w.heap.size, 3, none⟩ = false := F1.out.fr 3
  have f4 : w1.cell? ⟨w.heap.size, 4, none⟩ = some (.int .i64 f.rm) := F1.out.cell 4
  have p4 : w1.frozen? ⟨w.heap.size, 4, none⟩ = false := F1.out.fr 4
  have f5 : w1.cell? ⟨w.heap.size, 5, none⟩ = some (.int .i64 f.gm) := F1.out.cell 5
  have p5 : w1.frozen? ⟨w.heap.size, 5, none⟩ = false := F1.out.fr 5
  have f6 : w1.cell? ⟨w.heap.size, 6, none⟩ = some (.int .i64 f.bm) := F1.out.cell 6
  have p6 : w1.frozen? ⟨w.heap.size, 6, none⟩ = false := F1.out.fr 6
  have f7 : w1.cell? ⟨w.heap.size, 7, none⟩ = some (.int .i64 f.rs) := F1.out.cell 7
  have p7 : w1.frozen? ⟨w.heap.size, 7, none⟩ = false := F1.out.fr 7
  have f8 : w1.cell? ⟨w.heap.size, 8, none⟩ = some (.int .i64 f.gs) := F1.out.cell 8
  have p8 : w1.frozen? ⟨w.heap.size, 8, none⟩ = false := F1.out.fr 8
  have f9 : w1.cell? ⟨w.heap.size, 9, none⟩ = some (.int .i64 f.bs) := F1.out.cell 9
  have p9 : w1.frozen? ⟨w.heap.size, 9, none⟩ = false := F1.out.fr 9
  go_wp2_with fail
  refine (K17.out _).mono ?_
  rintro e w2 ⟨rfl, hb2⟩
  have F2 := hide (F1.out.below hb2)
  have B2 := hide (B1.out.trans (hb2.mono B1.out.size))
  clear hb2
  clear f0 p0
  clear f1 p1
  clear f2 p2
  clear f3 p3
  clear f4 p4
  clear f5 p5
  clear f6 p6
  clear f7 p7
  clear f8 p8
  clear f9 p9
  have f0 : w2.cell? ⟨w.heap.size, 0, none⟩ = some (.int .i64 f.bits) := F2.out.cell 0
  have p0 : w2.frozen? ⟨w.heap.size, 0, none⟩ = false := F2.out.fr 0
  have f1 : w2.cell? ⟨w.heap.size, 1, none⟩ = some (.int .i64 f.depth) := F2.out.cell 1
  have p1 : w2.frozen? ⟨w.heap.size, 1, none⟩ = false := F2.out.fr 1
  have f2 : w2.cell? ⟨w.heap.size, 2, none⟩ = some (.bool f.big) := F2.out.cell 2
  have p2 : w2.frozen? ⟨w.heap.size, 2, none⟩ = false := F2.out.fr 2
  have f3 : w2.cell? ⟨w.heap.size, 3, none⟩ = some (.bool f.tru) := F2.out.cell 3
  have p3 : w2.frozen? ⟨w.heap.size, 3, none⟩ = false := F2.out.fr 3
  have f4 : w2.cell? ⟨w.heap.size, 4, none⟩ = some (.int .i64 f.rm) := F2.out.cell 4
  have p4 : w2.frozen? ⟨w.heap.size, 4, none⟩ = false := F2.out.fr 4
  have f5 : w2.cell? ⟨w.heap.size, 5, none⟩ = some (.int .i64 f.gm) := F2.out.cell 5
  have p5 : w2.frozen? ⟨w.heap.size, 5, none⟩ = false := F2.out.fr 5
  have f6 : w2.cell? ⟨w.heap.size, 6, none⟩ = some (.int .i64 f.bm) := F2.out.cell 6
  have p6 : w2.frozen? ⟨w.heap.size, 6, none⟩ = false := F2.out.fr 6
  have f7 : w2.cell? ⟨w.heap.size, 7, none⟩ = some (.int .i64 f.rs) := F2.out.cell 7
  have p7 : w2.frozen? ⟨w.heap.size, 7, none⟩ = false := F2.out.fr 7
  have f8 : w2.cell? ⟨w.heap.size, 8, none⟩ = some (.int .i64 f.gs) := F2.out.cell 8
  have p8 : w2.frozen? ⟨w.heap.size, 8, none⟩ = false := F2.out.fr 8
  have f9 : w2.cell? ⟨w.heap.size, 9, none⟩ = some (.int .i64 f.bs) := F2.out.cell 9
  have p9 : w2.frozen? ⟨w.heap.size, 9, none⟩ = false := F2.out.fr 9
  go_wp2_with fail
  refine (K19.out _).mono ?_
  rintro e w3 ⟨rfl, hb3⟩
  have F3 := hide (F2.out.below hb3)
  have B3 := hide (B2.out.trans (hb3.mono B2.out.size))
  clear hb3
  clear f0 p0
  clear f1 p1
  clear f2 p2
  clear f3 p3
  clear f4 p4
  clear f5 p5
  clear f6 p6
  clear f7 p7
  clear f8 p8
  clear f9 p9
  have f0 : w3.cell? ⟨w.heap.size, 0, none⟩ = some (.int .i64 f.bits) := F3.out.cell 0
  have p0 : w3.frozen? ⟨w.heap.size, 0, none⟩ = false := F3.out.fr 0
  have f1 : w3.cell? ⟨w.heap.size, 1, none⟩ = some (.int .i64 f.depth) := F3.out.cell 1
  have p1 : w3.frozen? ⟨w.heap.size, 1, none⟩ = false := F3.out.fr 1
  have f2 : w3.cell? ⟨w.heap.size, 2, none⟩ = some (.bool f.big) := F3.out.cell 2
  have p2 : w3.frozen? ⟨w.heap.size, 2, none⟩ = false := F3.out.fr 2
  have f3 : w3.cell? ⟨w.heap.size, 3, none⟩ = some (.bool f.tru) := F3.out.cell 3
  have p3 : w3.frozen? ⟨w.heap.size, 3, none⟩ = false := F3.out.fr 3
  have f4 : w3.cell? ⟨w.heap.size, 4, none⟩ = some (.int .i64 f.rm) := F3.out.cell 4
  have p4 : w3.frozen? ⟨w.heap.size, 4, none⟩ = false := F3.out.fr 4
  have f5 : w3.cell? ⟨w.heap.size, 5, none⟩ = some (.int .i64 f.gm) := F3.out.cell 5
  have p5 : w3.frozen? ⟨w.heap.size, 5, none⟩ = false := F3.out.fr 5
  have f6 : w3.cell? ⟨w.heap.size, 6, none⟩ = some (.int .i64 f.bm) := F3.out.cell 6
  have p6 : w3.frozen? ⟨w.heap.size, 6, none⟩ = false := F3.out.fr 6
  have f7 : w3.cell? ⟨w.heap.size, 7, none⟩ = some (.int .i64 f.rs) := F3.out.cell 7
  have p7 : w3.frozen? ⟨w.heap.size, 7, none⟩ = false := F3.out.fr 7
  have f8 : w3.cell? ⟨w.heap.size, 8, none⟩ = some (.int .i64 f.gs) := F3.out.cell 8
  have p8 : w3.frozen? ⟨w.heap.size, 8, none⟩ = false := F3.out.fr 8
  have f9 : w3.cell? ⟨w.heap.size, 9, none⟩ = some (.int .i64 f.bs) := F3.out.cell 9
  have p9 : w3.frozen? ⟨w.heap.size, 9, none⟩ = false := F3.out.fr 9
  go_wp2_with fail
  refine (K15.out _).mono ?_
  rintro e w4 ⟨rfl, hb4⟩
  have F4 := hide (F3.out.below hb4)
  have B4 := hide (B3.out.trans (hb4.mono B3.out.size))
  clear hb4
  clear f0 p0
  clear f1 p1
  clear f2 p2
  clear f3 p3
  clear f4 p4
  clear f5 p5
  clear f6 p6
  clear f7 p7
  clear f8 p8
  clear f9 p9
  have f0 : w4.cell? ⟨w.heap.size, 0, none⟩ = some (.int .i64 f.bits) := F4.out.cell 0
  have p0 : w4.frozen? ⟨w.heap.size, 0, none⟩ = false := F4.out.fr 0
  have f1 : w4.cell? ⟨w.heap.size, 1, none⟩ = some (.int .i64 f.depth) := F4.out.cell 1
  have p1 : w4.frozen? ⟨w.heap.size, 1, none⟩ = false := F4.out.fr 1
  have f2 : w4.cell? ⟨w.heap.size, 2, none⟩ = some (.bool f.big) := F4.out.cell 2
  have p2 : w4.frozen? ⟨w.heap.size, 2, none⟩ = false := F4.out.fr 2
  have f3 : w4.cell? ⟨w.heap.size, 3, none⟩ = some (.bool f.tru) := F4.out.cell 3
  have p3 : w4.frozen? ⟨w.heap.size, 3, none⟩ = false := F4.out.fr 3
  have f4 : w4.cell? ⟨w.heap.size, 4, none⟩ = some (.int .i64 f.rm) := F4.out.cell 4
  have p4 : w4.frozen? ⟨w.heap.size, 4, none⟩ = false := F4.out.fr 4
  have f5 : w4.cell? ⟨w.heap.size, 5, none⟩ = some (.int .i64 f.gm) := F4.out.cell 5
  have p5 : w4.frozen? ⟨w.heap.size, 5, none⟩ = false := F4.out.fr 5
  have f6 : w4.cell? ⟨w.heap.size, 6, none⟩ = some (.int .i64 f.bm) := F4.out.cell 6
  have p6 : w4.frozen? ⟨w.heap.size, 6, none⟩ = false := F4.out.fr 6
  have f7 : w4.cell? ⟨w.heap.size, 7, none⟩ = some (.int .i64 f.rs) := F4.out.cell 7
  have p7 : w4.frozen? ⟨w.heap.size, 7, none⟩ = false := F4.out.fr 7
  have f8 : w4.cell? ⟨w.heap.size, 8, none⟩ = some (.int .i64 f.gs) := F4.out.cell 8
  have p8 : w4.frozen? ⟨w.heap.size, 8, none⟩ = false := F4.out.fr 8
  have f9 : w4.cell? ⟨w.heap.size, 9, none⟩ = some (.int .i64 f.bs) := F4.out.cell 9
  have p9 : w4.frozen? ⟨w.heap.size, 9, none⟩ = false := F4.out.fr 9
  have hlt := F4.out.lt
  go_wp2_with fail
  refine (K19.out _).mono ?_
  rintro e w5 ⟨rfl, hb5⟩
  have F5 := hide ((F4.out.alloc _).below hb5)
  have B5 := hide ((B4.out.alloc B4.out.size _).trans (hb5.mono (by rw [World.size_alloc]; exact Nat.le_succ_of_le B4.out.size)))
  clear hb5
  clear f0 p0
  clear f1 p1
  clear f2 p2
  clear f3 p3
  clear f4 p4
  clear f5 p5
  clear f6 p6
  clear f7 p7
  clear f8 p8
  clear f9 p9
  have f0 : w5.cell? ⟨w.heap.size, 0, none⟩ = some (.int .i64 f.bits) := F5.out.cell 0
  have p0 : w5.frozen? ⟨w.heap.size, 0, none⟩ = false := F5.out.fr 0
  have f1 : w5.cell? ⟨w.heap.size, 1, none⟩ = some (.int .i64 f.depth) := F5.out.cell 1
  have p1 : w5.frozen? ⟨w.heap.size, 1, none⟩ = false := F5.out.fr 1
  have f2 : w5.cell? ⟨w.heap.size, 2, none⟩ = some (.bool f.big) := F5.out.cell 2
  have p2 : w5.frozen? ⟨w.heap.size, 2, none⟩ = false := F5.out.fr 2
  have f3 : w5.cell? ⟨w.heap.size, 3, none⟩ = some (.bool f.tru) := F5.out.cell 3
  have p3 : w5.frozen? ⟨w.heap.size, 3, none⟩ = false := F5.out.fr 3
  have f4 : w5.cell? ⟨w.heap.size, 4, none⟩ = some (.int .i64 f.rm) := F5.out.cell 4
  have p4 : w5.frozen? ⟨w.heap.size, 4, none⟩ = false := F5.out.fr 4
  have f5 : w5.cell? ⟨w.heap.size, 5, none⟩ = some (.int .i64 f.gm) := F5.out.cell 5
  have p5 : w5.frozen? ⟨w.heap.size, 5, none⟩ = false := F5.out.fr 5
  have f6 : w5.cell? ⟨w.heap.size, 6, none⟩ = some (.int .i64 f.bm) := F5.out.cell 6
  have p6 : w5.frozen? ⟨w.heap.size, 6, none⟩ = false := F5.out.fr 6
  have f7 : w5.cell? ⟨w.heap.size, 7, none⟩ = some (.int .i64 f.rs) := F5.out.cell 7
  have p7 : w5.frozen? ⟨w.heap.size, 7, none⟩ = false := F5.out.fr 7
  have f8 : w5.cell? ⟨w.heap.size, 8, none⟩ = some (.int .i64 f.gs) := F5.out.cell 8
  have p8 : w5.frozen? ⟨w.heap.size, 8, none⟩ = false := F5.out.fr 8
  have f9 : w5.cell? ⟨w.heap.size, 9, none⟩ = some (.int .i64 f.bs) := F5.out.cell 9
  have p9 : w5.frozen? ⟨w.heap.size, 9, none⟩ = false := F5.out.fr 9
  go_upto_region 10 with fail
  clear f0 p0
  clear f1 p1
  clear f2 p2
  clear f3 p3
  clear f4 p4
  clear f5 p5
  clear f6 p6
  clear f7 p7
  clear f8 p8
  clear f9 p9
  have F6 := F5
  have B6 := B5
  have hS6 := hide (show Blk w.heap.size 23 #[.int .i64 f.bits, .int .i64 f.depth, .bool f.big, .bool f.tru, .int .i64 f.rm, .int .i64 f.gm, .int .i64 f.bm, .int .i64 f.rs, .int .i64 f.gs, .int .i64 f.bs] w5.drew from F6.out)
  have D6 := hide (show Below w.heap.size w w5.drew from B6.out.drew)
  clear F6 B6
  have B6 := D6
  clear D6
  refine plan_region [(0, true), (1, true), (2, true), (4, true), (3, false), (5, true), (6, false), (7, true), (8, true), (9, true), (10, true), (11, true)] (fun w' => Blk w.heap.size 23 #[.int .i64 f.bits, .int .i64 f.depth, .bool f.big, .bool f.tru, .int .i64 f.rm, .int .i64 f.gm, .int .i64 f.bm, .int .i64 f.rs, .int .i64 f.gs, .int .i64 f.bs] w') [] rfl (by kernel_rfl) (fun _ _ d _ _ h => by cases d <;> exact h) ?_
  generalize w5.drew = v6 at *
  refine plan_v (i := 0) (N := (some 58)) (v := ?v10x0) (a' := ?b10x0) rfl rfl hS6.out (by rfl) ?hy10x0 ?ha10x0 ?_
  case hy10x0 =>
    intro w' hS'
    have f0 : w'.cell? ⟨w.heap.size, 0, none⟩ = some (.int .i64 f.bits) := hS'.cell 0
    have f1 : w'.cell? ⟨w.heap.size, 1, none⟩ = some (.int .i64 f.depth) := hS'.cell 1
    have f2 : w'.cell? ⟨w.heap.size, 2, none⟩ = some (.bool f.big) := hS'.cell 2
    have f3 : w'.cell? ⟨w.heap.size, 3, none⟩ = some (.bool f.tru) := hS'.cell 3
    have f4 : w'.cell? ⟨w.heap.size, 4, none⟩ = some (.int .i64 f.rm) := hS'.cell 4
    have f5 : w'.cell? ⟨w.heap.size, 5, none⟩ = some (.int .i64 f.gm) := hS'.cell 5
    have f6 : w'.cell? ⟨w.heap.size, 6, none⟩ = some (.int .i64 f.bm) := hS'.cell 6
    have f7 : w'.cell? ⟨w.heap.size, 7, none⟩ = some (.int .i64 f.rs) := hS'.cell 7
    have f8 : w'.cell? ⟨w.heap.size, 8, none⟩ = some (.int .i64 f.gs) := hS'.cell 8
    have f9 : w'.cell? ⟨w.heap.size, 9, none⟩ = some (.int .i64 f.bs) := hS'.cell 9
    go_simp
    with_reducible rfl
  case ha10x0 =>
    simp only [Act.put, List.setIfInBounds_toArray, List.set_cons_zero, List.set_cons_succ]
    rfl
  refine plan_v (i := 1) (N := (some 59)) (v := ?v10x1) (a' := ?b10x1) rfl rfl hS6.out (by rfl) ?hy10x1 ?ha10x1 ?_
  case hy10x1 =>
    intro w' hS'
    have f0 : w'.cell? ⟨w.heap.size, 0, none⟩ = some (.int .i64 f.bits) := hS'.cell 0
    have f1 : w'.cell? ⟨w.heap.size, 1, none⟩ = some (.int .i64 f.depth) := hS'.cell 1
    have f2 : w'.cell? ⟨w.heap.size, 2, none⟩ = some (.bool f.big) := hS'.cell 2
    have f3 : w'.cell? ⟨w.heap.size, 3, none⟩ = some (.bool f.tru) := hS'.cell 3
    have f4 : w'.cell? ⟨w.heap.size, 4, none⟩ = some (.int .i64 f.rm) := hS'.cell 4
    have f5 : w'.cell? ⟨w.heap.size, 5, none⟩ = some (.int .i64 f.gm) := hS'.cell 5
    have f6 : w'.cell? ⟨w.heap.size, 6, none⟩ = some (.int .i64 f.bm) := hS'.cell 6
    have f7 : w'.cell? ⟨w.heap.size, 7, none⟩ = some (.int .i64 f.rs) := hS'.cell 7
    have f8 : w'.cell? ⟨w.heap.size, 8, none⟩ = some (.int .i64 f.gs) := hS'.cell 8
    have f9 : w'.cell? ⟨w.heap.size, 9, none⟩ = some (.int .i64 f.bs) := hS'.cell 9
    go_simp
    with_reducible rfl
  case ha10x1 =>
    simp only [Act.put, List.setIfInBounds_toArray, List.set_cons_zero, List.set_cons_succ]
    rfl
  refine plan_v (i := 2) (N := (some 60)) (v := ?v10x2) (a' := ?b10x2) rfl rfl hS6.out (by rfl) ?hy10x2 ?ha10x2 ?_
  case hy10x2 =>
    intro w' hS'
    go_simp
    with_reducible rfl
  case ha10x2 =>
    simp only [Act.put, List.setIfInBounds_toArray, List.set_cons_zero, List.set_cons_succ]
    rfl
  refine plan_v (i := 4) (N := (some 62)) (v := ?v10x4) (a' := ?b10x4) rfl rfl hS6.out (by rfl) ?hy10x4 ?ha10x4 ?_
  case hy10x4 =>
    intro w' hS'
    go_simp
    with_reducible rfl
  case ha10x4 =>
    simp only [Act.put, List.setIfInBounds_toArray, List.set_cons_zero, List.set_cons_succ]
    rfl
  refine plan_e (i := 3) rfl (by rfl) (fun K hK => ?_)
  go_simp
  refine (K36.out _).mono ?_
  rintro e w7 ⟨rfl, hb⟩
  have hS7 := hide (hS6.out.below hb)
  have B7 := hide (B6.out.trans (hb.mono B6.out.size))
  clear hb
  refine hK _ _ (fun _ => hS7.out) ?_
  clear hK K
  refine plan_v (i := 5) (N := (some 63)) (v := ?v10x5) (a' := ?b10x5) rfl rfl hS7.out (by rfl) ?hy10x5 ?ha10x5 ?_
  case hy10x5 =>
    intro w' hS'
    go_simp
    with_reducible rfl
  case ha10x5 =>
    simp only [Act.put, List.setIfInBounds_toArray, List.set_cons_zero, List.set_cons_succ]
    rfl
  refine plan_e (i := 6) rfl (by rfl) (fun K hK => ?_)
  go_simp
  refine (K41.out _).mono ?_
  rintro e w8 ⟨rfl, hb⟩
  have hS8 := hide (hS7.out.below hb)
  have B8 := hide (B7.out.trans (hb.mono B7.out.size))
  clear hb
  refine hK _ _ (fun _ => hS8.out) ?_
  clear hK K
  refine plan_v (i := 7) (N := (some 57)) (v := ?v10x7) (a' := ?b10x7) rfl rfl hS8.out (by rfl) ?hy10x7 ?ha10x7 ?_
  case hy10x7 =>
    intro w' hS'
    go_simp
    with_reducible rfl
  case ha10x7 =>
    simp only [Act.put, List.setIfInBounds_toArray, List.set_cons_zero, List.set_cons_succ]
    rfl
  refine plan_v (i := 8) (N := (some 65)) (v := ?v10x8) (a' := ?b10x8) rfl rfl hS8.out (by rfl) ?hy10x8 ?ha10x8 ?_
  case hy10x8 =>
    intro w' hS'
    go_simp
    with_reducible rfl
  case ha10x8 =>
    simp only [Act.put, List.setIfInBounds_toArray, List.set_cons_zero, List.set_cons_succ]
    rfl
  refine plan_v (i := 9) (N := (some 66)) (v := ?v10x9) (a' := ?b10x9) rfl rfl hS8.out (by rfl) ?hy10x9 ?ha10x9 ?_
  case hy10x9 =>
    intro w' hS'
    go_simp
    with_reducible rfl
  case ha10x9 =>
    simp only [Act.put, List.setIfInBounds_toArray, List.set_cons_zero, List.set_cons_succ]
    rfl
  refine plan_v (i := 10) (N := (some 11)) (v := ?v10x10) (a' := ?b10x10) rfl rfl hS8.out (by rfl) ?hy10x10 ?ha10x10 ?_
  case hy10x10 =>
    intro w' hS'
    go_simp
    with_reducible rfl
  case ha10x10 =>
    simp only [Act.put, List.setIfInBounds_toArray, List.set_cons_zero, List.set_cons_succ]
    rfl
  refine plan_v (i := 11) (N := (some 12)) (v := ?v10x11) (a' := ?b10x11) rfl rfl hS8.out (by rfl) ?hy10x11 ?ha10x11 ?_
  case hy10x11 =>
    intro w' hS'
    go_simp
    with_reducible rfl
  case ha10x11 =>
    simp only [Act.put, List.setIfInBounds_toArray, List.set_cons_zero, List.set_cons_succ]
    rfl
  refine plan_done ?_
  have F8 := hS8
  have f0 : w8.cell? ⟨w.heap.size, 0, none⟩ = some (.int .i64 f.bits) := F8.out.cell 0
  have p0 : w8.frozen? ⟨w.heap.size, 0, none⟩ = false := F8.out.fr 0
  have f1 : w8.cell? ⟨w.heap.size, 1, none⟩ = some (.int .i64 f.depth) := F8.out.cell 1
  have p1 : w8.frozen? ⟨w.heap.size, 1, none⟩ = false := F8.out.fr 1
  have f2 : w8.cell? ⟨w.heap.size, 2, none⟩ = some (.bool f.big) := F8.out.cell 2
  have p2 : w8.frozen? ⟨w.heap.size, 2, none⟩ = false := F8.out.fr 2
  have f3 : w8.cell? ⟨w.heap.size, 3, none⟩ = some (.bool f.tru) := F8.out.cell 3
  have p3 : w8.frozen? ⟨w.heap.size, 3, none⟩ = false := F8.out.fr 3
  have f4 : w8.cell? ⟨w.heap.size, 4, none⟩ = some (.int .i64 f.rm) := F8.out.cell 4
  have p4 : w8.frozen? ⟨w.heap.size, 4, none⟩ = false := F8.out.fr 4
  have f5 : w8.cell? ⟨w.heap.size, 5, none⟩ = some (.int .i64 f.gm) := F8.out.cell 5
  have p5 : w8.frozen? ⟨w.heap.size, 5, none⟩ = false := F8.out.fr 5
  have f6 : w8.cell? ⟨w.heap.size, 6, none⟩ = some (.int .i64 f.bm) := F8.out.cell 6
  have p6 : w8.frozen? ⟨w.heap.size, 6, none⟩ = false := F8.out.fr 6
  have f7 : w8.cell? ⟨w.heap.size, 7, none⟩ = some (.int .i64 f.rs) := F8.out.cell 7
  have p7 : w8.frozen? ⟨w.heap.size, 7, none⟩ = false := F8.out.fr 7
  have f8 : w8.cell? ⟨w.heap.size, 8, none⟩ = some (.int .i64 f.gs) := F8.out.cell 8
  have p8 : w8.frozen? ⟨w.heap.size, 8, none⟩ = false := F8.out.fr 8
  have f9 : w8.cell? ⟨w.heap.size, 9, none⟩ = some (.int .i64 f.bs) := F8.out.cell 9
  have p9 : w8.frozen? ⟨w.heap.size, 9, none⟩ = false := F8.out.fr 9
  go_wp2_with fail
  refine (K39.out _).mono ?_
  rintro e w9 ⟨rfl, hb9⟩
  have F9 := hide (F8.out.below hb9)
  have B9 := hide (B8.out.trans (hb9.mono B8.out.size))
  clear hb9
  clear f0 p0
  clear f1 p1
  clear f2 p2
  clear f3 p3
  clear f4 p4
  clear f5 p5
  clear f6 p6
  clear f7 p7
  clear f8 p8
  clear f9 p9
  go_upto_region 12 with fail
  have hS9 := hide (show Blk w.heap.size 23 #[.int .i64 f.bits, .int .i64 f.depth, .bool f.big, .bool f.tru, .int .i64 f.rm, .int .i64 f.gm, .int .i64 f.bm, .int .i64 f.rs, .int .i64 f.gs, .int .i64 f.bs] w9.drew from F9.out)
  have D9 := hide (show Below w.heap.size w w9.drew from B9.out.drew)
  clear F9 B9
  have B9 := D9
  clear D9
  refine plan_region [(0, true), (1, true), (2, true), (4, true), (3, false), (5, true), (6, false), (7, true), (8, true), (9, true), (10, true), (11, true)] (fun w' => Blk w.heap.size 23 #[.int .i64 f.bits, .int .i64 f.depth, .bool f.big, .bool f.tru, .int .i64 f.rm, .int .i64 f.gm, .int .i64 f.bm, .int .i64 f.rs, .int .i64 f.gs, .int .i64 f.bs] w') [] rfl (by kernel_rfl) (fun _ _ d _ _ h => by cases d <;> exact h) ?_
  generalize w9.drew = v9 at *
  refine plan_v (i := 0) (N := (some 71)) (v := ?v12x0) (a' := ?b12x0) rfl rfl hS9.out (by rfl) ?hy12x0 ?ha12x0 ?_
  case hy12x0 =>
    intro w' hS'
    have f0 : w'.cell? ⟨w.heap.size, 0, none⟩ = some (.int .i64 f.bits) := hS'.cell 0
    have f1 : w'.cell? ⟨w.heap.size, 1, none⟩ = some (.int .i64 f.depth) := hS'.cell 1
    have f2 : w'.cell? ⟨w.heap.size, 2, none⟩ = some (.bool f.big) := hS'.cell 2
    have f3 : w'.cell? ⟨w.heap.size, 3, none⟩ = some (.bool f.tru) := hS'.cell 3
    have f4 : w'.cell? ⟨w.heap.size, 4, none⟩ = some (.int .i64 f.rm) := hS'.cell 4
    have f5 : w'.cell? ⟨w.heap.size, 5, none⟩ = some (.int .i64 f.gm) := hS'.cell 5
    have f6 : w'.cell? ⟨w.heap.size, 6, none⟩ = some (.int .i64 f.bm) := hS'.cell 6
    have f7 : w'.cell? ⟨w.heap.size, 7, none⟩ = some (.int .i64 f.rs) := hS'.cell 7
    have f8 : w'.cell? ⟨w.heap.size, 8, none⟩ = some (.int .i64 f.gs) := hS'.cell 8
    have f9 : w'.cell? ⟨w.heap.size, 9, none⟩ = some (.int .i64 f.bs) := hS'.cell 9
    go_simp
    with_reducible rfl
  case ha12x0 =>
    simp only [Act.put, List.setIfInBounds_toArray, List.set_cons_zero, List.set_cons_succ]
    rfl
  refine plan_v (i := 1) (N := (some 72)) (v := ?v12x1) (a' := ?b12x1) rfl rfl hS9.out (by rfl) ?hy12x1 ?ha12x1 ?_
  case hy12x1 =>
    intro w' hS'
    have f0 : w'.cell? ⟨w.heap.size, 0, none⟩ = some (.int .i64 f.bits) := hS'.cell 0
    have f1 : w'.cell? ⟨w.heap.size, 1, none⟩ = some (.int .i64 f.depth) := hS'.cell 1
    have f2 : w'.cell? ⟨w.heap.size, 2, none⟩ = some (.bool f.big) := hS'.cell 2
    have f3 : w'.cell? ⟨w.heap.size, 3, none⟩ = some (.bool f.tru) := hS'.cell 3
    have f4 : w'.cell? ⟨w.heap.size, 4, none⟩ = some (.int .i64 f.rm) := hS'.cell 4
    have f5 : w'.cell? ⟨w.heap.size, 5, none⟩ = some (.int .i64 f.gm) := hS'.cell 5
    have f6 : w'.cell? ⟨w.heap.size, 6, none⟩ = some (.int .i64 f.bm) := hS'.cell 6
    have f7 : w'.cell? ⟨w.heap.size, 7, none⟩ = some (.int .i64 f.rs) := hS'.cell 7
    have f8 : w'.cell? ⟨w.heap.size, 8, none⟩ = some (.int .i64 f.gs) := hS'.cell 8
    have f9 : w'.cell? ⟨w.heap.size, 9, none⟩ = some (.int .i64 f.bs) := hS'.cell 9
    go_simp
    with_reducible rfl
  case ha12x1 =>
    simp only [Act.put, List.setIfInBounds_toArray, List.set_cons_zero, List.set_cons_succ]
    rfl
  refine plan_v (i := 2) (N := (some 73)) (v := ?v12x2) (a' := ?b12x2) rfl rfl hS9.out (by rfl) ?hy12x2 ?ha12x2 ?_
  case hy12x2 =>
    intro w' hS'
    go_simp
    with_reducible rfl
  case ha12x2 =>
    simp only [Act.put, List.setIfInBounds_toArray, List.set_cons_zero, List.set_cons_succ]
    rfl
  refine plan_v (i := 4) (N := (some 75)) (v := ?v12x4) (a' := ?b12x4) rfl rfl hS9.out (by rfl) ?hy12x4 ?ha12x4 ?_
  case hy12x4 =>
    intro w' hS'
    go_simp
    with_reducible rfl
  case ha12x4 =>
    simp only [Act.put, List.setIfInBounds_toArray, List.set_cons_zero, List.set_cons_succ]
    rfl
  refine plan_e (i := 3) rfl (by rfl) (fun K hK => ?_)
  go_simp
  refine (K37.out _).mono ?_
  rintro e w10 ⟨rfl, hb⟩
  have hS10 := hide (hS9.out.below hb)
  have B10 := hide (B9.out.trans (hb.mono B9.out.size))
  clear hb
  refine hK _ _ (fun _ => hS10.out) ?_
  clear hK K
  refine plan_v (i := 5) (N := (some 76)) (v := ?v12x5) (a' := ?b12x5) rfl rfl hS10.out (by rfl) ?hy12x5 ?ha12x5 ?_
  case hy12x5 =>
    intro w' hS'
    go_simp
    with_reducible rfl
  case ha12x5 =>
    simp only [Act.put, List.setIfInBounds_toArray, List.set_cons_zero, List.set_cons_succ]
    rfl
  refine plan_e (i := 6) rfl (by rfl) (fun K hK => ?_)
  go_simp
  refine (K42.out _).mono ?_
  rintro e w11 ⟨rfl, hb⟩
  have hS11 := hide (hS10.out.below hb)
  have B11 := hide (B10.out.trans (hb.mono B10.out.size))
  clear hb
  refine hK _ _ (fun _ => hS11.out) ?_
  clear hK K
  refine plan_v (i := 7) (N := (some 70)) (v := ?v12x7) (a' := ?b12x7) rfl rfl hS11.out (by rfl) ?hy12x7 ?ha12x7 ?_
  case hy12x7 =>
    intro w' hS'
    go_simp
    with_reducible rfl
  case ha12x7 =>
    simp only [Act.put, List.setIfInBounds_toArray, List.set_cons_zero, List.set_cons_succ]
    rfl
  refine plan_v (i := 8) (N := (some 78)) (v := ?v12x8) (a' := ?b12x8) rfl rfl hS11.out (by rfl) ?hy12x8 ?ha12x8 ?_
  case hy12x8 =>
    intro w' hS'
    go_simp
    with_reducible rfl
  case ha12x8 =>
    simp only [Act.put, List.setIfInBounds_toArray, List.set_cons_zero, List.set_cons_succ]
    rfl
  refine plan_v (i := 9) (N := (some 79)) (v := ?v12x9) (a' := ?b12x9) rfl rfl hS11.out (by rfl) ?hy12x9 ?ha12x9 ?_
  case hy12x9 =>
    intro w' hS'
    go_simp
    with_reducible rfl
  case ha12x9 =>
    simp only [Act.put, List.setIfInBounds_toArray, List.set_cons_zero, List.set_cons_succ]
    rfl
  refine plan_v (i := 10) (N := (some 14)) (v := ?v12x10) (a' := ?b12x10) rfl rfl hS11.out (by rfl) ?hy12x10 ?ha12x10 ?_
  case hy12x10 =>
    intro w' hS'
    go_simp
    with_reducible rfl
  case ha12x10 =>
    simp only [Act.put, List.setIfInBounds_toArray, List.set_cons_zero, List.set_cons_succ]
    rfl
  refine plan_v (i := 11) (N := (some 15)) (v := ?v12x11) (a' := ?b12x11) rfl rfl hS11.out (by rfl) ?hy12x11 ?ha12x11 ?_
  case hy12x11 =>
    intro w' hS'
    go_simp
    with_reducible rfl
  case ha12x11 =>
    simp only [Act.put, List.setIfInBounds_toArray, List.set_cons_zero, List.set_cons_succ]
    rfl
  refine plan_done ?_
  have F11 := hS11
  have f0 : w11.cell? ⟨w.heap.size, 0, none⟩ = some (.int .i64 f.bits) := F11.out.cell 0
  have p0 : w11.frozen? ⟨w.heap.size, 0, none⟩ = false := F11.out.fr 0
  have f1 : w11.cell? ⟨w.heap.size, 1, none⟩ = some (.int .i64 f.depth) := F11.out.cell 1
  have p1 : w11.frozen? ⟨w.heap.size, 1, none⟩ = false := F11.out.fr 1
  have f2 : w11.cell? ⟨w.heap.size, 2, none⟩ = some (.bool f.big) := F11.out.cell 2
  have p2 : w11.frozen? ⟨w.heap.size, 2, none⟩ = false := F11.out.fr 2
  have f3 : w11.cell? ⟨w.heap.size, 3, none⟩ = some (.bool f.tru) := F11.out.cell 3
  have p3 : w11.frozen? ⟨w.heap.size, 3, none⟩ = false := F11.out.fr 3
  have f4 : w11.cell? ⟨w.heap.size, 4, none⟩ = some (.int .i64 f.rm) := F11.out.cell 4
  have p4 : w11.frozen? ⟨w.heap.size, 4, none⟩ = false := F11.out.fr 4
  have f5 : w11.cell? ⟨w.heap.size, 5, none⟩ = some (.int .i64 f.gm) := F11.out.cell 5
  have p5 : w11.frozen? ⟨w.heap.size, 5, none⟩ = false := F11.out.fr 5
  have f6 : w11.cell? ⟨w.heap.size, 6, none⟩ = some (.int .i64 f.bm) := F11.out.cell 6
  have p6 : w11.frozen? ⟨w.heap.size, 6, none⟩ = false := F11.out.fr 6
  have f7 : w11.cell? ⟨w.heap.size, 7, none⟩ = some (.int .i64 f.rs) := F11.out.cell 7
  have p7 : w11.frozen? ⟨w.heap.size, 7, none⟩ = false := F11.out.fr 7
  have f8 : w11.cell? ⟨w.heap.size, 8, none⟩ = some (.int .i64 f.gs) := F11.out.cell 8
  have p8 : w11.frozen? ⟨w.heap.size, 8, none⟩ = false := F11.out.fr 8
  have f9 : w11.cell? ⟨w.heap.size, 9, none⟩ = some (.int .i64 f.bs) := F11.out.cell 9
  have p9 : w11.frozen? ⟨w.heap.size, 9, none⟩ = false := F11.out.fr 9
  go_wp2_with fail
  refine (K43.out _).mono ?_
  rintro e w12 ⟨rfl, hb12⟩
  have F12 := hide (F11.out.below hb12)
  have B12 := hide (B11.out.trans (hb12.mono B11.out.size))
  clear hb12
  clear f0 p0
  clear f1 p1
  clear f2 p2
  clear f3 p3
  clear f4 p4
  clear f5 p5
  clear f6 p6
  clear f7 p7
  clear f8 p8
  clear f9 p9
  go_upto_region 14 with fail
  have hS12 := hide (show Blk w.heap.size 23 #[.int .i64 f.bits, .int .i64 f.depth, .bool f.big, .bool f.tru, .int .i64 f.rm, .int .i64 f.gm, .int .i64 f.bm, .int .i64 f.rs, .int .i64 f.gs, .int .i64 f.bs] w12.drew from F12.out)
  have D12 := hide (show Below w.heap.size w w12.drew from B12.out.drew)
  clear F12 B12
  have B12 := D12
  clear D12
  refine plan_region [(0, true), (1, true), (2, true), (3, true), (4, true), (5, true), (6, true), (7, true), (8, true), (9, true), (10, true), (11, true), (12, true), (13, true), (14, true), (15, true), (16, true), (17, true), (18, true), (19, true), (20, true), (21, true), (24, true), (22, false), (23, true), (25, false), (26, true), (27, true), (28, true), (29, true), (30, true), (33, true), (31, false), (32, true), (34, true), (35, true), (36, true), (37, true), (38, true), (39, true), (40, true), (41, true), (42, true), (43, true), (44, true), (45, true), (46, true), (47, true)] (fun w' => Blk w.heap.size 23 #[.int .i64 f.bits, .int .i64 f.depth, .bool f.big, .bool f.tru, .int .i64 f.rm, .int .i64 f.gm, .int .i64 f.bm, .int .i64 f.rs, .int .i64 f.gs, .int .i64 f.bs] w') [] rfl (by kernel_rfl) (fun _ _ d _ _ h => by cases d <;> exact h) ?_
  generalize w12.drew = v12 at *
  refine plan_v (i := 0) (N := (some 85)) (v := ?v14x0) (a' := ?b14x0) rfl rfl hS12.out (by rfl) ?hy14x0 ?ha14x0 ?_
  case hy14x0 =>
    intro w' hS'
    go_simp
    with_reducible rfl
  case ha14x0 =>
    simp only [Act.put, List.setIfInBounds_toArray, List.set_cons_zero, List.set_cons_succ]
    rfl
  refine plan_v (i := 1) (N := (some 86)) (v := ?v14x1) (a' := ?b14x1) rfl rfl hS12.out (by rfl) ?hy14x1 ?ha14x1 ?_
  case hy14x1 =>
    intro w' hS'
    go_simp
    with_reducible rfl
  case ha14x1 =>
    simp only [Act.put, List.setIfInBounds_toArray, List.set_cons_zero, List.set_cons_succ]
    rfl
  refine plan_v (i := 2) (N := (some 87)) (v := ?v14x2) (a' := ?b14x2) rfl rfl hS12.out (by rfl) ?hy14x2 ?ha14x2 ?_
  case hy14x2 =>
    intro w' hS'
    go_simp
    with_reducible rfl
  case ha14x2 =>
    simp only [Act.put, List.setIfInBounds_toArray, List.set_cons_zero, List.set_cons_succ]
    rfl
  refine plan_v (i := 3) (N := (some 88)) (v := ?v14x3) (a' := ?b14x3) rfl rfl hS12.out (by rfl) ?hy14x3 ?ha14x3 ?_
  case hy14x3 =>
    intro w' hS'
    go_simp
    with_reducible rfl
  case ha14x3 =>
    simp only [Act.put, List.setIfInBounds_toArray, List.set_cons_zero, List.set_cons_succ]
    rfl
  refine plan_v (i := 4) (N := (some 89)) (v := ?v14x4) (a' := ?b14x4) rfl rfl hS12.out (by rfl) ?hy14x4 ?ha14x4 ?_
  case hy14x4 =>
    intro w' hS'
    go_simp
    with_reducible rfl
  case ha14x4 =>
    simp only [Act.put, List.setIfInBounds_toArray, List.set_cons_zero, List.set_cons_succ]
    rfl
  refine plan_v (i := 5) (N := (some 90)) (v := ?v14x5) (a' := ?b14x5) rfl rfl hS12.out (by rfl) ?hy14x5 ?ha14x5 ?_
  case hy14x5 =>
    intro w' hS'
    go_simp
    with_reducible rfl
  case ha14x5 =>
    simp only [Act.put, List.setIfInBounds_toArray, List.set_cons_zero, List.set_cons_succ]
    rfl
  refine plan_v (i := 6) (N := (some 91)) (v := ?v14x6) (a' := ?b14x6) rfl rfl hS12.out (by rfl) ?hy14x6 ?ha14x6 ?_
  case hy14x6 =>
    intro w' hS'
    go_simp
    with_reducible rfl
  case ha14x6 =>
    simp only [Act.put, List.setIfInBounds_toArray, List.set_cons_zero, List.set_cons_succ]
    rfl
  refine plan_v (i := 7) (N := (some 92)) (v := ?v14x7) (a' := ?b14x7) rfl rfl hS12.out (by rfl) ?hy14x7 ?ha14x7 ?_
  case hy14x7 =>
    intro w' hS'
    go_simp
    with_reducible rfl
  case ha14x7 =>
    simp only [Act.put, List.setIfInBounds_toArray, List.set_cons_zero, List.set_cons_succ]
    rfl
  refine plan_v (i := 8) (N := (some 93)) (v := ?v14x8) (a' := ?b14x8) rfl rfl hS12.out (by rfl) ?hy14x8 ?ha14x8 ?_
  case hy14x8 =>
    intro w' hS'
    go_simp
    with_reducible rfl
  case ha14x8 =>
    simp only [Act.put, List.setIfInBounds_toArray, List.set_cons_zero, List.set_cons_succ]
    rfl
  refine plan_v (i := 9) (N := (some 94)) (v := ?v14x9) (a' := ?b14x9) rfl rfl hS12.out (by rfl) ?hy14x9 ?ha14x9 ?_
  case hy14x9 =>
    intro w' hS'
    go_simp
    with_reducible rfl
  case ha14x9 =>
    simp only [Act.put, List.setIfInBounds_toArray, List.set_cons_zero, List.set_cons_succ]
    rfl
  refine plan_v (i := 10) (N := (some 95)) (v := ?v14x10) (a' := ?b14x10) rfl rfl hS12.out (by rfl) ?hy14x10 ?ha14x10 ?_
  case hy14x10 =>
    intro w' hS'
    go_simp
    with_reducible rfl
  case ha14x10 =>
    simp only [Act.put, List.setIfInBounds_toArray, List.set_cons_zero, List.set_cons_succ]
    rfl
  refine plan_v (i := 11) (N := (some 96)) (v := ?v14x11) (a' := ?b14x11) rfl rfl hS12.out (by rfl) ?hy14x11 ?ha14x11 ?_
  case hy14x11 =>
    intro w' hS'
    go_simp
    with_reducible rfl
  case ha14x11 =>
    simp only [Act.put, List.setIfInBounds_toArray, List.set_cons_zero, List.set_cons_succ]
    rfl
  refine plan_v (i := 12) (N := (some 97)) (v := ?v14x12) (a' := ?b14x12) rfl rfl hS12.out (by rfl) ?hy14x12 ?ha14x12 ?_
  case hy14x12 =>
    intro w' hS'
    go_simp
    with_reducible rfl
  case ha14x12 =>
    simp only [Act.put, List.setIfInBounds_toArray, List.set_cons_zero, List.set_cons_succ]
    rfl
  refine plan_v (i := 13) (N := (some 98)) (v := ?v14x13) (a' := ?b14x13) rfl rfl hS12.out (by rfl) ?hy14x13 ?ha14x13 ?_
  case hy14x13 =>
    intro w' hS'
    go_simp
    with_reducible rfl
  case ha14x13 =>
    simp only [Act.put, List.setIfInBounds_toArray, List.set_cons_zero, List.set_cons_succ]
    rfl
  refine plan_v (i := 14) (N := (some 99)) (v := ?v14x14) (a' := ?b14x14) rfl rfl hS12.out (by rfl) ?hy14x14 ?ha14x14 ?_
  case hy14x14 =>
    intro w' hS'
    go_simp
    with_reducible rfl
  case ha14x14 =>
    simp only [Act.put, List.setIfInBounds_toArray, List.set_cons_zero, List.set_cons_succ]
    rfl
  refine plan_v (i := 15) (N := (some 100)) (v := ?v14x15) (a' := ?b14x15) rfl rfl hS12.out (by rfl) ?hy14x15 ?ha14x15 ?_
  case hy14x15 =>
    intro w' hS'
    go_simp
    with_reducible rfl
  case ha14x15 =>
    simp only [Act.put, List.setIfInBounds_toArray, List.set_cons_zero, List.set_cons_succ]
    rfl
  refine plan_v (i := 16) (N := (some 101)) (v := ?v14x16) (a' := ?b14x16) rfl rfl hS12.out (by rfl) ?hy14x16 ?ha14x16 ?_
  case hy14x16 =>
    intro w' hS'
    go_simp
    with_reducible rfl
  case ha14x16 =>
    simp only [Act.put, List.setIfInBounds_toArray, List.set_cons_zero, List.set_cons_succ]
    rfl
  refine plan_v (i := 17) (N := (some 102)) (v := ?v14x17) (a' := ?b14x17) rfl rfl hS12.out (by rfl) ?hy14x17 ?ha14x17 ?_
  case hy14x17 =>
    intro w' hS'
    go_simp
    with_reducible rfl
  case ha14x17 =>
    simp only [Act.put, List.setIfInBounds_toArray, List.set_cons_zero, List.set_cons_succ]
    rfl
  refine plan_v (i := 18) (N := (some 103)) (v := ?v14x18) (a' := ?b14x18) rfl rfl hS12.out (by rfl) ?hy14x18 ?ha14x18 ?_
  case hy14x18 =>
    intro w' hS'
    go_simp
    with_reducible rfl
  case ha14x18 =>
    simp only [Act.put, List.setIfInBounds_toArray, List.set_cons_zero, List.set_cons_succ]
    rfl
  refine plan_v (i := 19) (N := (some 104)) (v := ?v14x19) (a' := ?b14x19) rfl rfl hS12.out (by rfl) ?hy14x19 ?ha14x19 ?_
  case hy14x19 =>
    intro w' hS'
    go_simp
    with_reducible rfl
  case ha14x19 =>
    simp only [Act.put, List.setIfInBounds_toArray, List.set_cons_zero, List.set_cons_succ]
    rfl
  refine plan_v (i := 20) (N := (some 105)) (v := ?v14x20) (a' := ?b14x20) rfl rfl hS12.out (by rfl) ?hy14x20 ?ha14x20 ?_
  case hy14x20 =>
    intro w' hS'
    have f0 : w'.cell? ⟨w.heap.size, 0, none⟩ = some (.int .i64 f.bits) := hS'.cell 0
    have f1 : w'.cell? ⟨w.heap.size, 1, none⟩ = some (.int .i64 f.depth) := hS'.cell 1
    have f2 : w'.cell? ⟨w.heap.size, 2, none⟩ = some (.bool f.big) := hS'.cell 2
    have f3 : w'.cell? ⟨w.heap.size, 3, none⟩ = some (.bool f.tru) := hS'.cell 3
    have f4 : w'.cell? ⟨w.heap.size, 4, none⟩ = some (.int .i64 f.rm) := hS'.cell 4
    have f5 : w'.cell? ⟨w.heap.size, 5, none⟩ = some (.int .i64 f.gm) := hS'.cell 5
    have f6 : w'.cell? ⟨w.heap.size, 6, none⟩ = some (.int .i64 f.bm) := hS'.cell 6
    have f7 : w'.cell? ⟨w.heap.size, 7, none⟩ = some (.int .i64 f.rs) := hS'.cell 7
    have f8 : w'.cell? ⟨w.heap.size, 8, none⟩ = some (.int .i64 f.gs) := hS'.cell 8
    have f9 : w'.cell? ⟨w.heap.size, 9, none⟩ = some (.int .i64 f.bs) := hS'.cell 9
    go_simp
    with_reducible rfl
  case ha14x20 =>
    simp only [Act.put, List.setIfInBounds_toArray, List.set_cons_zero, List.set_cons_succ]
    rfl
  refine plan_v (i := 21) (N := (some 106)) (v := ?v14x21) (a' := ?b14x21) rfl rfl hS12.out (by rfl) ?hy14x21 ?ha14x21 ?_
  case hy14x21 =>
    intro w' hS'
    go_simp
    with_reducible rfl
  case ha14x21 =>
    simp only [Act.put, List.setIfInBounds_toArray, List.set_cons_zero, List.set_cons_succ]
    rfl
  refine plan_v (i := 24) (N := (some 109)) (v := ?v14x24) (a' := ?b14x24) rfl rfl hS12.out (by rfl) ?hy14x24 ?ha14x24 ?_
  case hy14x24 =>
    intro w' hS'
    have f0 : w'.cell? ⟨w.heap.size, 0, none⟩ = some (.int .i64 f.bits) := hS'.cell 0
    have f1 : w'.cell? ⟨w.heap.size, 1, none⟩ = some (.int .i64 f.depth) := hS'.cell 1
    have f2 : w'.cell? ⟨w.heap.size, 2, none⟩ = some (.bool f.big) := hS'.cell 2
    have f3 : w'.cell? ⟨w.heap.size, 3, none⟩ = some (.bool f.tru) := hS'.cell 3
    have f4 : w'.cell? ⟨w.heap.size, 4, none⟩ = some (.int .i64 f.rm) := hS'.cell 4
    have f5 : w'.cell? ⟨w.heap.size, 5, none⟩ = some (.int .i64 f.gm) := hS'.cell 5
    have f6 : w'.cell? ⟨w.heap.size, 6, none⟩ = some (.int .i64 f.bm) := hS'.cell 6
    have f7 : w'.cell? ⟨w.heap.size, 7, none⟩ = some (.int .i64 f.rs) := hS'.cell 7
    have f8 : w'.cell? ⟨w.heap.size, 8, none⟩ = some (.int .i64 f.gs) := hS'.cell 8
    have f9 : w'.cell? ⟨w.heap.size, 9, none⟩ = some (.int .i64 f.bs) := hS'.cell 9
    go_simp
    with_reducible rfl
  case ha14x24 =>
    simp only [Act.put, List.setIfInBounds_toArray, List.set_cons_zero, List.set_cons_succ]
    rfl
  refine plan_e (i := 22) rfl (by rfl) (fun K hK => ?_)
  go_simp
  refine (K36.out _).mono ?_
  rintro e w13 ⟨rfl, hb⟩
  have hS13 := hide (hS12.out.below hb)
  have B13 := hide (B12.out.trans (hb.mono B12.out.size))
  clear hb
  refine hK _ _ (fun _ => hS13.out) ?_
  clear hK K
  refine plan_v (i := 23) (N := (some 108)) (v := ?v14x23) (a' := ?b14x23) rfl rfl hS13.out (by rfl) ?hy14x23 ?ha14x23 ?_
  case hy14x23 =>
    intro w' hS'
    go_simp
    with_reducible rfl
  case ha14x23 =>
    simp only [Act.put, List.setIfInBounds_toArray, List.set_cons_zero, List.set_cons_succ]
    rfl
  refine plan_e (i := 25) rfl (by rfl) (fun K hK => ?_)
  go_simp
  refine (K27.out _).mono ?_
  rintro e w14 ⟨rfl, hb⟩
  have hS14 := hide (hS13.out.below hb)
  have B14 := hide (B13.out.trans (hb.mono B13.out.size))
  clear hb
  refine hK _ _ (fun _ => hS14.out) ?_
  clear hK K
  refine plan_v (i := 26) (N := (some 111)) (v := ?v14x26) (a' := ?b14x26) rfl rfl hS14.out (by rfl) ?hy14x26 ?ha14x26 ?_
  case hy14x26 =>
    intro w' hS'
    go_simp
    with_reducible rfl
  case ha14x26 =>
    simp only [Act.put, List.setIfInBounds_toArray, List.set_cons_zero, List.set_cons_succ]
    rfl
  refine plan_v (i := 27) (N := (some 112)) (v := ?v14x27) (a' := ?b14x27) rfl rfl hS14.out (by rfl) ?hy14x27 ?ha14x27 ?_
  case hy14x27 =>
    intro w' hS'
    go_simp
    with_reducible rfl
  case ha14x27 =>
    simp only [Act.put, List.setIfInBounds_toArray, List.set_cons_zero, List.set_cons_succ]
    rfl
  refine plan_v (i := 28) (N := (some 113)) (v := ?v14x28) (a' := ?b14x28) rfl rfl hS14.out (by rfl) ?hy14x28 ?ha14x28 ?_
  case hy14x28 =>
    intro w' hS'
    go_simp
    with_reducible rfl
  case ha14x28 =>
    simp only [Act.put, List.setIfInBounds_toArray, List.set_cons_zero, List.set_cons_succ]
    rfl
  refine plan_v (i := 29) (N := (some 114)) (v := ?v14x29) (a' := ?b14x29) rfl rfl hS14.out (by rfl) ?hy14x29 ?ha14x29 ?_
  case hy14x29 =>
    intro w' hS'
    have f0 : w'.cell? ⟨w.heap.size, 0, none⟩ = some (.int .i64 f.bits) := hS'.cell 0
    have f1 : w'.cell? ⟨w.heap.size, 1, none⟩ = some (.int .i64 f.depth) := hS'.cell 1
    have f2 : w'.cell? ⟨w.heap.size, 2, none⟩ = some (.bool f.big) := hS'.cell 2
    have f3 : w'.cell? ⟨w.heap.size, 3, none⟩ = some (.bool f.tru) := hS'.cell 3
    have f4 : w'.cell? ⟨w.heap.size, 4, none⟩ = some (.int .i64 f.rm) := hS'.cell 4
    have f5 : w'.cell? ⟨w.heap.size, 5, none⟩ = some (.int .i64 f.gm) := hS'.cell 5
    have f6 : w'.cell? ⟨w.heap.size, 6, none⟩ = some (.int .i64 f.bm) := hS'.cell 6
    have f7 : w'.cell? ⟨w.heap.size, 7, none⟩ = some (.int .i64 f.rs) := hS'.cell 7
    have f8 : w'.cell? ⟨w.heap.size, 8, none⟩ = some (.int .i64 f.gs) := hS'.cell 8
    have f9 : w'.cell? ⟨w.heap.size, 9, none⟩ = some (.int .i64 f.bs) := hS'.cell 9
    go_simp
    with_reducible rfl
  case ha14x29 =>
    simp only [Act.put, List.setIfInBounds_toArray, List.set_cons_zero, List.set_cons_succ]
    rfl
  refine plan_v (i := 30) (N := (some 115)) (v := ?v14x30) (a' := ?b14x30) rfl rfl hS14.out (by rfl) ?hy14x30 ?ha14x30 ?_
  case hy14x30 =>
    intro w' hS'
    go_simp
    with_reducible rfl
  case ha14x30 =>
    simp only [Act.put, List.setIfInBounds_toArray, List.set_cons_zero, List.set_cons_succ]
    rfl
  refine plan_v (i := 33) (N := (some 118)) (v := ?v14x33) (a' := ?b14x33) rfl rfl hS14.out (by rfl) ?hy14x33 ?ha14x33 ?_
  case hy14x33 =>
    intro w' hS'
    go_simp
    with_reducible rfl
  case ha14x33 =>
    simp only [Act.put, List.setIfInBounds_toArray, List.set_cons_zero, List.set_cons_succ]
    rfl
  refine plan_e (i := 31) rfl (by rfl) (fun K hK => ?_)
  go_simp
  refine (K37.out _).mono ?_
  rintro e w15 ⟨rfl, hb⟩
  have hS15 := hide (hS14.out.below hb)
  have B15 := hide (B14.out.trans (hb.mono B14.out.size))
  clear hb
  refine hK _ _ (fun _ => hS15.out) ?_
  clear hK K
  refine plan_v (i := 32) (N := (some 117)) (v := ?v14x32) (a' := ?b14x32) rfl rfl hS15.out (by rfl) ?hy14x32 ?ha14x32 ?_
  case hy14x32 =>
    intro w' hS'
    go_simp
    with_reducible rfl
  case ha14x32 =>
    simp only [Act.put, List.setIfInBounds_toArray, List.set_cons_zero, List.set_cons_succ]
    rfl
  refine plan_v (i := 34) (N := (some 119)) (v := ?v14x34) (a' := ?b14x34) rfl rfl hS15.out (by rfl) ?hy14x34 ?ha14x34 ?_
  case hy14x34 =>
    intro w' hS'
    go_simp
    with_reducible rfl
  case ha14x34 =>
    simp only [Act.put, List.setIfInBounds_toArray, List.set_cons_zero, List.set_cons_succ]
    rfl
  refine plan_v (i := 35) (N := (some 120)) (v := ?v14x35) (a' := ?b14x35) rfl rfl hS15.out (by rfl) ?hy14x35 ?ha14x35 ?_
  case hy14x35 =>
    intro w' hS'
    go_simp
    with_reducible rfl
  case ha14x35 =>
    simp only [Act.put, List.setIfInBounds_toArray, List.set_cons_zero, List.set_cons_succ]
    rfl
  refine plan_v (i := 36) (N := (some 121)) (v := ?v14x36) (a' := ?b14x36) rfl rfl hS15.out (by rfl) ?hy14x36 ?ha14x36 ?_
  case hy14x36 =>
    intro w' hS'
    go_simp
    with_reducible rfl
  case ha14x36 =>
    simp only [Act.put, List.setIfInBounds_toArray, List.set_cons_zero, List.set_cons_succ]
    rfl
  refine plan_v (i := 37) (N := (some 122)) (v := ?v14x37) (a' := ?b14x37) rfl rfl hS15.out (by rfl) ?hy14x37 ?ha14x37 ?_
  case hy14x37 =>
    intro w' hS'
    go_simp
    with_reducible rfl
  case ha14x37 =>
    simp only [Act.put, List.setIfInBounds_toArray, List.set_cons_zero, List.set_cons_succ]
    rfl
  refine plan_v (i := 38) (N := (some 123)) (v := ?v14x38) (a' := ?b14x38) rfl rfl hS15.out (by rfl) ?hy14x38 ?ha14x38 ?_
  case hy14x38 =>
    intro w' hS'
    go_simp
    with_reducible rfl
  case ha14x38 =>
    simp only [Act.put, List.setIfInBounds_toArray, List.set_cons_zero, List.set_cons_succ]
    rfl
  refine plan_v (i := 39) (N := (some 124)) (v := ?v14x39) (a' := ?b14x39) rfl rfl hS15.out (by rfl) ?hy14x39 ?ha14x39 ?_
  case hy14x39 =>
    intro w' hS'
    go_simp
    with_reducible rfl
  case ha14x39 =>
    simp only [Act.put, List.setIfInBounds_toArray, List.set_cons_zero, List.set_cons_succ]
    rfl
  refine plan_v (i := 40) (N := (some 125)) (v := ?v14x40) (a' := ?b14x40) rfl rfl hS15.out (by rfl) ?hy14x40 ?ha14x40 ?_
  case hy14x40 =>
    intro w' hS'
    go_simp
    with_reducible rfl
  case ha14x40 =>
    simp only [Act.put, List.setIfInBounds_toArray, List.set_cons_zero, List.set_cons_succ]
    rfl
  refine plan_v (i := 41) (N := (some 126)) (v := ?v14x41) (a' := ?b14x41) rfl rfl hS15.out (by rfl) ?hy14x41 ?ha14x41 ?_
  case hy14x41 =>
    intro w' hS'
    go_simp
    with_reducible rfl
  case ha14x41 =>
    simp only [Act.put, List.setIfInBounds_toArray, List.set_cons_zero, List.set_cons_succ]
    rfl
  refine plan_v (i := 42) (N := (some 127)) (v := ?v14x42) (a' := ?b14x42) rfl rfl hS15.out (by rfl) ?hy14x42 ?ha14x42 ?_
  case hy14x42 =>
    intro w' hS'
    go_simp
    with_reducible rfl
  case ha14x42 =>
    simp only [Act.put, List.setIfInBounds_toArray, List.set_cons_zero, List.set_cons_succ]
    rfl
  refine plan_v (i := 43) (N := (some 128)) (v := ?v14x43) (a' := ?b14x43) rfl rfl hS15.out (by rfl) ?hy14x43 ?ha14x43 ?_
  case hy14x43 =>
    intro w' hS'
    have f0 : w'.cell? ⟨w.heap.size, 0, none⟩ = some (.int .i64 f.bits) := hS'.cell 0
    have f1 : w'.cell? ⟨w.heap.size, 1, none⟩ = some (.int .i64 f.depth) := hS'.cell 1
    have f2 : w'.cell? ⟨w.heap.size, 2, none⟩ = some (.bool f.big) := hS'.cell 2
    have f3 : w'.cell? ⟨w.heap.size, 3, none⟩ = some (.bool f.tru) := hS'.cell 3
    have f4 : w'.cell? ⟨w.heap.size, 4, none⟩ = some (.int .i64 f.rm) := hS'.cell 4
    have f5 : w'.cell? ⟨w.heap.size, 5, none⟩ = some (.int .i64 f.gm) := hS'.cell 5
    have f6 : w'.cell? ⟨w.heap.size, 6, none⟩ = some (.int .i64 f.bm) := hS'.cell 6
    have f7 : w'.cell? ⟨w.heap.size, 7, none⟩ = some (.int .i64 f.rs) := hS'.cell 7
    have f8 : w'.cell? ⟨w.heap.size, 8, none⟩ = some (.int .i64 f.gs) := hS'.cell 8
    have f9 : w'.cell? ⟨w.heap.size, 9, none⟩ = some (.int .i64 f.bs) := hS'.cell 9
    go_simp
    with_reducible rfl
  case ha14x43 =>
    simp only [Act.put, List.setIfInBounds_toArray, List.set_cons_zero, List.set_cons_succ]
    rfl
  refine plan_v (i := 44) (N := (some 129)) (v := ?v14x44) (a' := ?b14x44) rfl rfl hS15.out (by rfl) ?hy14x44 ?ha14x44 ?_
  case hy14x44 =>
    intro w' hS'
    go_simp
    with_reducible rfl
  case ha14x44 =>
    simp only [Act.put, List.setIfInBounds_toArray, List.set_cons_zero, List.set_cons_succ]
    rfl
  refine plan_v (i := 45) (N := (some 130)) (v := ?v14x45) (a' := ?b14x45) rfl rfl hS15.out (by rfl) ?hy14x45 ?ha14x45 ?_
  case hy14x45 =>
    intro w' hS'
    go_simp
    with_reducible rfl
  case ha14x45 =>
    simp only [Act.put, List.setIfInBounds_toArray, List.set_cons_zero, List.set_cons_succ]
    rfl
  refine plan_v (i := 46) (N := (some 131)) (v := ?v14x46) (a' := ?b14x46) rfl rfl hS15.out (by rfl) ?hy14x46 ?ha14x46 ?_
  case hy14x46 =>
    intro w' hS'
    go_simp
    with_reducible rfl
  case ha14x46 =>
    simp only [Act.put, List.setIfInBounds_toArray, List.set_cons_zero, List.set_cons_succ]
    rfl
  refine plan_v (i := 47) (N := (some 6)) (v := ?v14x47) (a' := ?b14x47) rfl rfl hS15.out (by rfl) ?hy14x47 ?ha14x47 ?_
  case hy14x47 =>
    intro w' hS'
    go_simp
    with_reducible rfl
  case ha14x47 =>
    simp only [Act.put, List.setIfInBounds_toArray, List.set_cons_zero, List.set_cons_succ]
    rfl
  refine plan_done ?_
  go_wp2_with fail
  go_ret
  exact ⟨rfl, B15.out⟩

end Go.Proofs.Ytodlpofpeoiedaa
