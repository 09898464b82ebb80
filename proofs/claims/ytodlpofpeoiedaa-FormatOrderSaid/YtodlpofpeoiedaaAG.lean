/-
  FormatOrder: the walk.
-/
import Derived.Test.YtodlpofpeoiedaaAF
import Derived.Test.YtodlpofpeoiedaaV
namespace Go.Proofs.Ytodlpofpeoiedaa
open Go.RowKit Go.Sort

set_option maxHeartbeats 3200000 in
set_option maxRecDepth 100000 in
theorem law7_walk (f : Fmt) (n v q : Int) (A B C D : ByteArray) (w : World)
    (K17f : Hid (∀ w, Calls Try.prog 17 #[.agg #[.int .i64 f.bits, .int .i64 f.depth, .bool f.big, .bool f.tru, .int .i64 f.rm, .int .i64 f.gm, .int .i64 f.bm, .int .i64 f.rs, .int .i64 f.gs, .int .i64 f.bs]] w fun e w' => e = .returned (.bool true) ∧ Below w.heap.size w w'))
    (K17g : Hid (∀ w, Calls Try.prog 17 #[.agg #[.int .i64 f.bits, .int .i64 f.depth, .bool (!f.big), .bool f.tru, .int .i64 f.rm, .int .i64 f.gm, .int .i64 f.bm, .int .i64 f.rs, .int .i64 f.gs, .int .i64 f.bs]] w fun e w' => e = .returned (.bool true) ∧ Below w.heap.size w w'))
    (KPf : Hid (∀ w, Calls Try.prog 36 #[.agg #[.int .i64 f.bits, .int .i64 f.depth, .bool f.big, .bool f.tru, .int .i64 f.rm, .int .i64 f.gm, .int .i64 f.bm, .int .i64 f.rs, .int .i64 f.gs, .int .i64 f.bs], .int .i64 n] w fun e w' => e = .returned (.string A) ∧ Below w.heap.size w w'))
    (KPg : Hid (∀ w, Calls Try.prog 36 #[.agg #[.int .i64 f.bits, .int .i64 f.depth, .bool (!f.big), .bool f.tru, .int .i64 f.rm, .int .i64 f.gm, .int .i64 f.bm, .int .i64 f.rs, .int .i64 f.gs, .int .i64 f.bs], .int .i64 n] w fun e w' => e = .returned (.string B) ∧ Below w.heap.size w w'))
    (KCf : Hid (∀ w, Calls Try.prog 37 #[.agg #[.int .i64 f.bits, .int .i64 f.depth, .bool f.big, .bool f.tru, .int .i64 f.rm, .int .i64 f.gm, .int .i64 f.bm, .int .i64 f.rs, .int .i64 f.gs, .int .i64 f.bs], .int .i64 n] w fun e w' => e = .returned (.string C) ∧ Below w.heap.size w w'))
    (KCg : Hid (∀ w, Calls Try.prog 37 #[.agg #[.int .i64 f.bits, .int .i64 f.depth, .bool (!f.big), .bool f.tru, .int .i64 f.rm, .int .i64 f.gm, .int .i64 f.bm, .int .i64 f.rs, .int .i64 f.gs, .int .i64 f.bs], .int .i64 n] w fun e w' => e = .returned (.string D) ∧ Below w.heap.size w w'))
    (KTa : Hid (∀ w, Calls Try.prog 38 #[.string B] w fun e w' => e = .returned (.string A) ∧ Below w.heap.size w w'))
    (KTb : Hid (∀ w, Calls Try.prog 38 #[.string D] w fun e w' => e = .returned (.string C) ∧ Below w.heap.size w w'))
    (KVf : Hid (∀ w, Calls Try.prog 39 #[.agg #[.int .i64 f.bits, .int .i64 f.depth, .bool f.big, .bool f.tru, .int .i64 f.rm, .int .i64 f.gm, .int .i64 f.bm, .int .i64 f.rs, .int .i64 f.gs, .int .i64 f.bs], .int .i64 n] w fun e w' => e = .returned (.int .i64 v) ∧ Below w.heap.size w w'))
    (KVg : Hid (∀ w, Calls Try.prog 39 #[.agg #[.int .i64 f.bits, .int .i64 f.depth, .bool (!f.big), .bool f.tru, .int .i64 f.rm, .int .i64 f.gm, .int .i64 f.bm, .int .i64 f.rs, .int .i64 f.gs, .int .i64 f.bs], .int .i64 n] w fun e w' => e = .returned (.int .i64 v) ∧ Below w.heap.size w w'))
    (KQf : Hid (∀ w, Calls Try.prog 40 #[.agg #[.int .i64 f.bits, .int .i64 f.depth, .bool f.big, .bool f.tru, .int .i64 f.rm, .int .i64 f.gm, .int .i64 f.bm, .int .i64 f.rs, .int .i64 f.gs, .int .i64 f.bs], .int .i64 n] w fun e w' => e = .returned (.int .i64 q) ∧ Below w.heap.size w w'))
    (KQg : Hid (∀ w, Calls Try.prog 40 #[.agg #[.int .i64 f.bits, .int .i64 f.depth, .bool (!f.big), .bool f.tru, .int .i64 f.rm, .int .i64 f.gm, .int .i64 f.bm, .int .i64 f.rs, .int .i64 f.gs, .int .i64 f.bs], .int .i64 n] w fun e w' => e = .returned (.int .i64 q) ∧ Below w.heap.size w w'))
    : Calls Try.prog 7 #[.agg #[.int .i64 f.bits, .int .i64 f.depth, .bool f.big, .bool f.tru, .int .i64 f.rm, .int .i64 f.gm, .int .i64 f.bm, .int .i64 f.rs, .int .i64 f.gs, .int .i64 f.bs], .int .i64 n] w fun e w' => e = .returned (.bool true) ∧ Below w.heap.size w w' := by
  have F0 := hide (Blk.new w 23 #[.int .i64 f.bits, .int .i64 f.depth, .bool f.big, .bool f.tru, .int .i64 f.rm, .int .i64 f.gm, .int .i64 f.bm, .int .i64 f.rs, .int .i64 f.gs, .int .i64 f.bs])
  have B0 := hide ((Below.refl w.heap.size w).alloc (Nat.le_refl _) (.cells #[.int .i64 f.bits, .int .i64 f.depth, .bool f.big, .bool f.tru, .int .i64 f.rm, .int .i64 f.gm, .int .i64 f.bm, .int .i64 f.rs, .int .i64 f.gs, .int .i64 f.bs] 23))
  go_enter Try.func7, Try.ntmps7
  go_upto_region 1 with fail
  generalize w.alloc (.cells #[.int .i64 f.bits, .int .i64 f.depth, .bool f.big, .bool f.tru, .int .i64 f.rm, .int .i64 f.gm, .int .i64 f.bm, .int .i64 f.rs, .int .i64 f.gs, .int .i64 f.bs] 23) = w0 at *
  go_wp2_with fail
  refine (works14_any _).mono ?_
  rintro e w1 ⟨rfl, hb1⟩
  have F1 := hide (F0.out.below hb1)
  have B1 := hide (B0.out.trans (hb1.mono B0.out.size))
  clear hb1
  have f0 : w1.cell? ⟨w.heap.size, 0, none⟩ = some (.int .i64 f.bits) := F1.out.cell 0
  have p0 : w1.frozen? ⟨w.heap.size, 0, none⟩ = false := F1.out.fr 0
  have f1 : w1.cell? ⟨w.heap.size, 1, none⟩ = some (.int .i64 f.depth) := F1.out.cell 1
  have p1 : w1.frozen? ⟨w.heap.size, 1, none⟩ = false := F1.out.fr 1
  have f2 : w1.cell? ⟨w.heap.size, 2, none⟩ = some (.bool f.big) := F1.out.cell 2
  have p2 : w1.frozen? ⟨w.heap.size, 2, none⟩ = false := F1.out.fr 2
  have f3 : w1.cell? ⟨w.heap.size, 3, none⟩ = some (.bool f.tru) := F1.out.cell 3
  have p3 : w1.frozen? ⟨w.heap.size, 3, none⟩ = false := F1.out.fr 3
  have f4 : w1.cell? ⟨w.heap.size, 4, none⟩ = some (.int .i64 f.rm) := F1.out.cell 4
  have p4 : w1.frozen? ⟨w.heap.size, 4, none⟩ = false := F1.out.fr 4
  have f5 : w1.cell? ⟨w.heap.size, 5, none⟩ = some (.int .i64 f.gm) := F1.out.cell 5
  have p5 : w1.frozen? ⟨w.heap.size, 5, none⟩ = false := F1.out.fr 5
  have f6 : w1.cell? ⟨w.heap.size, 6, none⟩ = some (.int .i64 f.bm) := F1.out.cell 6
  have p6 : w1.frozen? ⟨w.heap.size, 6, none⟩ = false := F1.out.fr 6
  have f7 : w1.cell? ⟨w.heap.size, 7, none⟩ = some (.int .i64 f.rs) := F1.out.cell 7
  have p7 : w1.frozen? ⟨w.heap.size, 7, none⟩ = false := F1.out.fr 7
  have f8 : w1.cell? ⟨w.heap.size, 8, none⟩ = some (.int .i64 f.gs) := F1.out.cell 8
  have p8 : w1.frozen? ⟨w.heap.size, 8, none⟩ = false := F1.out.fr 8
  have f9 : w1.cell? ⟨w.heap.size, 9, none⟩ = some (.int .i64 f.bs) := F1.out.cell 9
  have p9 : w1.frozen? ⟨w.heap.size, 9, none⟩ = false := F1.out.fr 9
  go_wp2_with fail
  refine (K17f.out _).mono ?_
  rintro e w2 ⟨rfl, hb2⟩
  have F2 := hide (F1.out.below hb2)
  have B2 := hide (B1.out.trans (hb2.mono B1.out.size))
  clear hb2
  clear f0 p0
  clear f1 p1
  clear f2 p2
  clear f3 p3
  clear f4 p4
  clear f5 p5
  clear f6 p6
  clear f7 p7
  clear f8 p8
  clear f9 p9
  have f0 : w2.cell? ⟨w.heap.size, 0, none⟩ = some (.int .i64 f.bits) := F2.out.cell 0
  have p0 : w2.frozen? ⟨w.heap.size, 0, none⟩ = false := F2.out.fr 0
  have f1 : w2.cell? ⟨w.heap.size, 1, none⟩ = some (.int .i64 f.depth) := F2.out.cell 1
  have p1 : w2.frozen? ⟨w.heap.size, 1, none⟩ = false := F2.out.fr 1
  have f2 : w2.cell? ⟨w.heap.size, 2, none⟩ = some (.bool f.big) := F2.out.cell 2
  have p2 : w2.frozen? ⟨w.heap.size, 2, none⟩ = false := F2.out.fr 2
  have f3 : w2.cell? ⟨w.heap.size, 3, none⟩ = some (.bool f.tru) := F2.out.cell 3
  have p3 : w2.frozen? ⟨w.heap.size, 3, none⟩ = false := F2.out.fr 3
  have f4 : w2.cell? ⟨w.heap.size, 4, none⟩ = some (.int .i64 f.rm) := F2.out.cell 4
  have p4 : w2.frozen? ⟨w.heap.size, 4, none⟩ = false := F2.out.fr 4
  have f5 : w2.cell? ⟨w.heap.size, 5, none⟩ = some (.int .i64 f.gm) := F2.out.cell 5
  have p5 : w2.frozen? ⟨w.heap.size, 5, none⟩ = false := F2.out.fr 5
  have f6 : w2.cell? ⟨w.heap.size, 6, none⟩ = some (.int .i64 f.bm) := F2.out.cell 6
  have p6 : w2.frozen? ⟨w.heap.size, 6, none⟩ = false := F2.out.fr 6
  have f7 : w2.cell? ⟨w.heap.size, 7, none⟩ = some (.int .i64 f.rs) := F2.out.cell 7
  have p7 : w2.frozen? ⟨w.heap.size, 7, none⟩ = false := F2.out.fr 7
  have f8 : w2.cell? ⟨w.heap.size, 8, none⟩ = some (.int .i64 f.gs) := F2.out.cell 8
  have p8 : w2.frozen? ⟨w.heap.size, 8, none⟩ = false := F2.out.fr 8
  have f9 : w2.cell? ⟨w.heap.size, 9, none⟩ = some (.int .i64 f.bs) := F2.out.cell 9
  have p9 : w2.frozen? ⟨w.heap.size, 9, none⟩ = false := F2.out.fr 9
  have hlt := F2.out.lt
  go_wp2_with fail
  refine (KPf.out _).mono ?_
  rintro e w3 ⟨rfl, hb3⟩
  have F3 := hide ((F2.out.alloc _).below hb3)
  have G3 := hide ((Blk.new w2 23 #[.int .i64 f.bits, .int .i64 f.depth, .bool (!f.big), .bool f.tru, .int .i64 f.rm, .int .i64 f.gm, .int .i64 f.bm, .int .i64 f.rs, .int .i64 f.gs, .int .i64 f.bs]).below hb3)
  have B3 := hide ((B2.out.alloc B2.out.size _).trans (hb3.mono (by rw [World.size_alloc]; exact Nat.le_succ_of_le B2.out.size)))
  clear hb3
  clear f0 p0
  clear f1 p1
  clear f2 p2
  clear f3 p3
  clear f4 p4
  clear f5 p5
  clear f6 p6
  clear f7 p7
  clear f8 p8
  clear f9 p9
  have f0 : w3.cell? ⟨w2.heap.size, 0, none⟩ = some (.int .i64 f.bits) := G3.out.cell 0
  have p0 : w3.frozen? ⟨w2.heap.size, 0, none⟩ = false := G3.out.fr 0
  have f1 : w3.cell? ⟨w2.heap.size, 1, none⟩ = some (.int .i64 f.depth) := G3.out.cell 1
  have p1 : w3.frozen? ⟨w2.heap.size, 1, none⟩ = false := G3.out.fr 1
  have f2 : w3.cell? ⟨w2.heap.size, 2, none⟩ = some (.bool (!f.big)) := G3.out.cell 2
  have p2 : w3.frozen? ⟨w2.heap.size, 2, none⟩ = false := G3.out.fr 2
  have f3 : w3.cell? ⟨w2.heap.size, 3, none⟩ = some (.bool f.tru) := G3.out.cell 3
  have p3 : w3.frozen? ⟨w2.heap.size, 3, none⟩ = false := G3.out.fr 3
  have f4 : w3.cell? ⟨w2.heap.size, 4, none⟩ = some (.int .i64 f.rm) := G3.out.cell 4
  have p4 : w3.frozen? ⟨w2.heap.size, 4, none⟩ = false := G3.out.fr 4
  have f5 : w3.cell? ⟨w2.heap.size, 5, none⟩ = some (.int .i64 f.gm) := G3.out.cell 5
  have p5 : w3.frozen? ⟨w2.heap.size, 5, none⟩ = false := G3.out.fr 5
  have f6 : w3.cell? ⟨w2.heap.size, 6, none⟩ = some (.int .i64 f.bm) := G3.out.cell 6
  have p6 : w3.frozen? ⟨w2.heap.size, 6, none⟩ = false := G3.out.fr 6
  have f7 : w3.cell? ⟨w2.heap.size, 7, none⟩ = some (.int .i64 f.rs) := G3.out.cell 7
  have p7 : w3.frozen? ⟨w2.heap.size, 7, none⟩ = false := G3.out.fr 7
  have f8 : w3.cell? ⟨w2.heap.size, 8, none⟩ = some (.int .i64 f.gs) := G3.out.cell 8
  have p8 : w3.frozen? ⟨w2.heap.size, 8, none⟩ = false := G3.out.fr 8
  have f9 : w3.cell? ⟨w2.heap.size, 9, none⟩ = some (.int .i64 f.bs) := G3.out.cell 9
  have p9 : w3.frozen? ⟨w2.heap.size, 9, none⟩ = false := G3.out.fr 9
  go_wp2_with fail
  refine (KPg.out _).mono ?_
  rintro e w4 ⟨rfl, hb4⟩
  have F4 := hide (F3.out.below hb4)
  have B4 := hide (B3.out.trans (hb4.mono B3.out.size))
  have G4 := hide (G3.out.below hb4)
  clear hb4
  clear f0 p0
  clear f1 p1
  clear f2 p2
  clear f3 p3
  clear f4 p4
  clear f5 p5
  clear f6 p6
  clear f7 p7
  clear f8 p8
  clear f9 p9
  have f0 : w4.cell? ⟨w.heap.size, 0, none⟩ = some (.int .i64 f.bits) := F4.out.cell 0
  have p0 : w4.frozen? ⟨w.heap.size, 0, none⟩ = false := F4.out.fr 0
  have f1 : w4.cell? ⟨w.heap.size, 1, none⟩ = some (.int .i64 f.depth) := F4.out.cell 1
  have p1 : w4.frozen? ⟨w.heap.size, 1, none⟩ = false := F4.out.fr 1
  have f2 : w4.cell? ⟨w.heap.size, 2, none⟩ = some (.bool f.big) := F4.out.cell 2
  have p2 : w4.frozen? ⟨w.heap.size, 2, none⟩ = false := F4.out.fr 2
  have f3 : w4.cell? ⟨w.heap.size, 3, none⟩ = some (.bool f.tru) := F4.out.cell 3
  have p3 : w4.frozen? ⟨w.heap.size, 3, none⟩ = false := F4.out.fr 3
  have f4 : w4.cell? ⟨w.heap.size, 4, none⟩ = some (.int .i64 f.rm) := F4.out.cell 4
  have p4 : w4.frozen? ⟨w.heap.size, 4, none⟩ = false := F4.out.fr 4
  have f5 : w4.cell? ⟨w.heap.size, 5, none⟩ = some (.int .i64 f.gm) := F4.out.cell 5
  have p5 : w4.frozen? ⟨w.heap.size, 5, none⟩ = false := F4.out.fr 5
  have f6 : w4.cell? ⟨w.heap.size, 6, none⟩ = some (.int .i64 f.bm) := F4.out.cell 6
  have p6 : w4.frozen? ⟨w.heap.size, 6, none⟩ = false := F4.out.fr 6
  have f7 : w4.cell? ⟨w.heap.size, 7, none⟩ = some (.int .i64 f.rs) := F4.out.cell 7
  have p7 : w4.frozen? ⟨w.heap.size, 7, none⟩ = false := F4.out.fr 7
  have f8 : w4.cell? ⟨w.heap.size, 8, none⟩ = some (.int .i64 f.gs) := F4.out.cell 8
  have p8 : w4.frozen? ⟨w.heap.size, 8, none⟩ = false := F4.out.fr 8
  have f9 : w4.cell? ⟨w.heap.size, 9, none⟩ = some (.int .i64 f.bs) := F4.out.cell 9
  have p9 : w4.frozen? ⟨w.heap.size, 9, none⟩ = false := F4.out.fr 9
  go_wp2_with fail
  refine (KCf.out _).mono ?_
  rintro e w5 ⟨rfl, hb5⟩
  have F5 := hide (F4.out.below hb5)
  have B5 := hide (B4.out.trans (hb5.mono B4.out.size))
  have G5 := hide (G4.out.below hb5)
  clear hb5
  clear f0 p0
  clear f1 p1
  clear f2 p2
  clear f3 p3
  clear f4 p4
  clear f5 p5
  clear f6 p6
  clear f7 p7
  clear f8 p8
  clear f9 p9
  have f0 : w5.cell? ⟨w2.heap.size, 0, none⟩ = some (.int .i64 f.bits) := G5.out.cell 0
  have p0 : w5.frozen? ⟨w2.heap.size, 0, none⟩ = false := G5.out.fr 0
  have f1 : w5.cell? ⟨w2.heap.size, 1, none⟩ = some (.int .i64 f.depth) := G5.out.cell 1
  have p1 : w5.frozen? ⟨w2.heap.size, 1, none⟩ = false := G5.out.fr 1
  have f2 : w5.cell? ⟨w2.heap.size, 2, none⟩ = some (.bool (!f.big)) := G5.out.cell 2
  have p2 : w5.frozen? ⟨w2.heap.size, 2, none⟩ = false := G5.out.fr 2
  have f3 : w5.cell? ⟨w2.heap.size, 3, none⟩ = some (.bool f.tru) := G5.out.cell 3
  have p3 : w5.frozen? ⟨w2.heap.size, 3, none⟩ = false := G5.out.fr 3
  have f4 : w5.cell? ⟨w2.heap.size, 4, none⟩ = some (.int .i64 f.rm) := G5.out.cell 4
  have p4 : w5.frozen? ⟨w2.heap.size, 4, none⟩ = false := G5.out.fr 4
  have f5 : w5.cell? ⟨w2.heap.size, 5, none⟩ = some (.int .i64 f.gm) := G5.out.cell 5
  have p5 : w5.frozen? ⟨w2.heap.size, 5, none⟩ = false := G5.out.fr 5
  have f6 : w5.cell? ⟨w2.heap.size, 6, none⟩ = some (.int .i64 f.bm) := G5.out.cell 6
  have p6 : w5.frozen? ⟨w2.heap.size, 6, none⟩ = false := G5.out.fr 6
  have f7 : w5.cell? ⟨w2.heap.size, 7, none⟩ = some (.int .i64 f.rs) := G5.out.cell 7
  have p7 : w5.frozen? ⟨w2.heap.size, 7, none⟩ = false := G5.out.fr 7
  have f8 : w5.cell? ⟨w2.heap.size, 8, none⟩ = some (.int .i64 f.gs) := G5.out.cell 8
  have p8 : w5.frozen? ⟨w2.heap.size, 8, none⟩ = false := G5.out.fr 8
  have f9 : w5.cell? ⟨w2.heap.size, 9, none⟩ = some (.int .i64 f.bs) := G5.out.cell 9
  have p9 : w5.frozen? ⟨w2.heap.size, 9, none⟩ = false := G5.out.fr 9
  go_wp2_with fail
  refine (KCg.out _).mono ?_
  rintro e w6 ⟨rfl, hb6⟩
  have F6 := hide (F5.out.below hb6)
  have B6 := hide (B5.out.trans (hb6.mono B5.out.size))
  have G6 := hide (G5.out.below hb6)
  clear hb6
  clear f0 p0
  clear f1 p1
  clear f2 p2
  clear f3 p3
  clear f4 p4
  clear f5 p5
  clear f6 p6
  clear f7 p7
  clear f8 p8
  clear f9 p9
  go_upto_region 12 with fail
  have hS6 : Hid (Blk w.heap.size 23 #[.int .i64 f.bits, .int .i64 f.depth, .bool f.big, .bool f.tru, .int .i64 f.rm, .int .i64 f.gm, .int .i64 f.bm, .int .i64 f.rs, .int .i64 f.gs, .int .i64 f.bs] w6.drew ∧ Blk w2.heap.size 23 #[.int .i64 f.bits, .int .i64 f.depth, .bool (!f.big), .bool f.tru, .int .i64 f.rm, .int .i64 f.gm, .int .i64 f.bm, .int .i64 f.rs, .int .i64 f.gs, .int .i64 f.bs] w6.drew) := hide ⟨F6.out, G6.out⟩
  have D6 := hide (show Below w.heap.size w w6.drew from B6.out.drew)
  clear F0 F1 F2 F3 F4 F5 F6 G3 G4 G5 G6 B0 B1 B2 B3 B4 B5 B6
  have B6 := D6
  clear D6
  refine plan_region [(0, true), (1, true), (2, true), (3, true), (4, false), (5, true), (6, true), (7, true), (8, true), (9, true), (10, false), (11, true), (12, true), (13, true), (14, true), (15, true), (17, true), (18, true), (16, false), (19, false), (20, true), (21, true), (22, true), (23, true), (24, true), (26, true), (27, true), (25, false), (28, false), (29, true), (30, true), (31, true), (32, true), (33, false), (34, true), (35, true)] (fun w' => Blk w.heap.size 23 #[.int .i64 f.bits, .int .i64 f.depth, .bool f.big, .bool f.tru, .int .i64 f.rm, .int .i64 f.gm, .int .i64 f.bm, .int .i64 f.rs, .int .i64 f.gs, .int .i64 f.bs] w' ∧ Blk w2.heap.size 23 #[.int .i64 f.bits, .int .i64 f.depth, .bool (!f.big), .bool f.tru, .int .i64 f.rm, .int .i64 f.gm, .int .i64 f.bm, .int .i64 f.rs, .int .i64 f.gs, .int .i64 f.bs] w') [] rfl (by kernel_rfl) (fun _ _ d _ _ h => by cases d <;> exact h) ?_
  generalize w6.drew = wd at *
  refine plan_v (i := 0) (N := (some 35)) (v := ?v0) (a' := ?b0) rfl rfl hS6.out (by rfl) ?hy0 ?ha0 ?_
  case hy0 =>
    intro w' hS'
    go_simp
    with_reducible rfl
  case ha0 =>
    simp only [Act.put, List.setIfInBounds_toArray, List.set_cons_zero, List.set_cons_succ]
    rfl
  refine plan_v (i := 1) (N := (some 36)) (v := ?v1) (a' := ?b1) rfl rfl hS6.out (by rfl) ?hy1 ?ha1 ?_
  case hy1 =>
    intro w' hS'
    go_simp
    with_reducible rfl
  case ha1 =>
    simp only [Act.put, List.setIfInBounds_toArray, List.set_cons_zero, List.set_cons_succ]
    rfl
  refine plan_v (i := 2) (N := (some 37)) (v := ?v2) (a' := ?b2) rfl rfl hS6.out (by rfl) ?hy2 ?ha2 ?_
  case hy2 =>
    intro w' hS'
    go_simp
    with_reducible rfl
  case ha2 =>
    simp only [Act.put, List.setIfInBounds_toArray, List.set_cons_zero, List.set_cons_succ]
    rfl
  refine plan_v (i := 3) (N := (some 38)) (v := ?v3) (a' := ?b3) rfl rfl hS6.out (by rfl) ?hy3 ?ha3 ?_
  case hy3 =>
    intro w' hS'
    go_simp
    with_reducible rfl
  case ha3 =>
    simp only [Act.put, List.setIfInBounds_toArray, List.set_cons_zero, List.set_cons_succ]
    rfl
  refine plan_e (i := 4) rfl (by rfl) (fun K hK => ?_)
  go_simp
  refine (KTa.out _).mono ?_
  rintro e w7 ⟨rfl, hb⟩
  have hS7 : Hid (Blk w.heap.size 23 #[.int .i64 f.bits, .int .i64 f.depth, .bool f.big, .bool f.tru, .int .i64 f.rm, .int .i64 f.gm, .int .i64 f.bm, .int .i64 f.rs, .int .i64 f.gs, .int .i64 f.bs] w7 ∧ Blk w2.heap.size 23 #[.int .i64 f.bits, .int .i64 f.depth, .bool (!f.big), .bool f.tru, .int .i64 f.rm, .int .i64 f.gm, .int .i64 f.bm, .int .i64 f.rs, .int .i64 f.gs, .int .i64 f.bs] w7) := hide ⟨hS6.out.1.below hb, hS6.out.2.below hb⟩
  have B7 := hide (B6.out.trans (hb.mono B6.out.size))
  clear hb
  refine hK _ _ (fun _ => hS7.out) ?_
  clear hK K
  refine plan_v (i := 5) (N := (some 40)) (v := ?v5) (a' := ?b5) rfl rfl hS7.out (by rfl) ?hy5 ?ha5 ?_
  case hy5 =>
    intro w' hS'
    go_simp
    with_reducible rfl
  case ha5 =>
    simp only [Act.put, List.setIfInBounds_toArray, List.set_cons_zero, List.set_cons_succ]
    rfl
  refine plan_v (i := 6) (N := (some 41)) (v := ?v6) (a' := ?b6) rfl rfl hS7.out (by rfl) ?hy6 ?ha6 ?_
  case hy6 =>
    intro w' hS'
    go_simp
    with_reducible rfl
  case ha6 =>
    simp only [Act.put, List.setIfInBounds_toArray, List.set_cons_zero, List.set_cons_succ]
    rfl
  refine plan_v (i := 7) (N := (some 42)) (v := ?v7) (a' := ?b7) rfl rfl hS7.out (by rfl) ?hy7 ?ha7 ?_
  case hy7 =>
    intro w' hS'
    go_simp
    with_reducible rfl
  case ha7 =>
    simp only [Act.put, List.setIfInBounds_toArray, List.set_cons_zero, List.set_cons_succ]
    rfl
  refine plan_v (i := 8) (N := (some 43)) (v := ?v8) (a' := ?b8) rfl rfl hS7.out (by rfl) ?hy8 ?ha8 ?_
  case hy8 =>
    intro w' hS'
    go_simp
    with_reducible rfl
  case ha8 =>
    simp only [Act.put, List.setIfInBounds_toArray, List.set_cons_zero, List.set_cons_succ]
    rfl
  refine plan_v (i := 9) (N := (some 44)) (v := ?v9) (a' := ?b9) rfl rfl hS7.out (by rfl) ?hy9 ?ha9 ?_
  case hy9 =>
    intro w' hS'
    go_simp
    with_reducible rfl
  case ha9 =>
    simp only [Act.put, List.setIfInBounds_toArray, List.set_cons_zero, List.set_cons_succ]
    rfl
  refine plan_e (i := 10) rfl (by rfl) (fun K hK => ?_)
  go_simp
  refine (KTb.out _).mono ?_
  rintro e w8 ⟨rfl, hb⟩
  have hS8 : Hid (Blk w.heap.size 23 #[.int .i64 f.bits, .int .i64 f.depth, .bool f.big, .bool f.tru, .int .i64 f.rm, .int .i64 f.gm, .int .i64 f.bm, .int .i64 f.rs, .int .i64 f.gs, .int .i64 f.bs] w8 ∧ Blk w2.heap.size 23 #[.int .i64 f.bits, .int .i64 f.depth, .bool (!f.big), .bool f.tru, .int .i64 f.rm, .int .i64 f.gm, .int .i64 f.bm, .int .i64 f.rs, .int .i64 f.gs, .int .i64 f.bs] w8) := hide ⟨hS7.out.1.below hb, hS7.out.2.below hb⟩
  have B8 := hide (B7.out.trans (hb.mono B7.out.size))
  clear hb
  refine hK _ _ (fun _ => hS8.out) ?_
  clear hK K
  refine plan_v (i := 11) (N := (some 46)) (v := ?v11) (a' := ?b11) rfl rfl hS8.out (by rfl) ?hy11 ?ha11 ?_
  case hy11 =>
    intro w' hS'
    go_simp
    with_reducible rfl
  case ha11 =>
    simp only [Act.put, List.setIfInBounds_toArray, List.set_cons_zero, List.set_cons_succ]
    rfl
  refine plan_v (i := 12) (N := (some 47)) (v := ?v12) (a' := ?b12) rfl rfl hS8.out (by rfl) ?hy12 ?ha12 ?_
  case hy12 =>
    intro w' hS'
    go_simp
    with_reducible rfl
  case ha12 =>
    simp only [Act.put, List.setIfInBounds_toArray, List.set_cons_zero, List.set_cons_succ]
    rfl
  refine plan_v (i := 13) (N := (some 48)) (v := ?v13) (a' := ?b13) rfl rfl hS8.out (by rfl) ?hy13 ?ha13 ?_
  case hy13 =>
    intro w' hS'
    go_simp
    with_reducible rfl
  case ha13 =>
    simp only [Act.put, List.setIfInBounds_toArray, List.set_cons_zero, List.set_cons_succ]
    rfl
  refine plan_v (i := 14) (N := (some 49)) (v := ?v14) (a' := ?b14) rfl rfl hS8.out (by rfl) ?hy14 ?ha14 ?_
  case hy14 =>
    intro w' hS'
    have f0 : w'.cell? ⟨w.heap.size, 0, none⟩ = some (.int .i64 f.bits) := hS'.1.cell 0
    have f1 : w'.cell? ⟨w.heap.size, 1, none⟩ = some (.int .i64 f.depth) := hS'.1.cell 1
    have f2 : w'.cell? ⟨w.heap.size, 2, none⟩ = some (.bool f.big) := hS'.1.cell 2
    have f3 : w'.cell? ⟨w.heap.size, 3, none⟩ = some (.bool f.tru) := hS'.1.cell 3
    have f4 : w'.cell? ⟨w.heap.size, 4, none⟩ = some (.int .i64 f.rm) := hS'.1.cell 4
    have f5 : w'.cell? ⟨w.heap.size, 5, none⟩ = some (.int .i64 f.gm) := hS'.1.cell 5
    have f6 : w'.cell? ⟨w.heap.size, 6, none⟩ = some (.int .i64 f.bm) := hS'.1.cell 6
    have f7 : w'.cell? ⟨w.heap.size, 7, none⟩ = some (.int .i64 f.rs) := hS'.1.cell 7
    have f8 : w'.cell? ⟨w.heap.size, 8, none⟩ = some (.int .i64 f.gs) := hS'.1.cell 8
    have f9 : w'.cell? ⟨w.heap.size, 9, none⟩ = some (.int .i64 f.bs) := hS'.1.cell 9
    go_simp
    with_reducible rfl
  case ha14 =>
    simp only [Act.put, List.setIfInBounds_toArray, List.set_cons_zero, List.set_cons_succ]
    rfl
  refine plan_v (i := 15) (N := (some 50)) (v := ?v15) (a' := ?b15) rfl rfl hS8.out (by rfl) ?hy15 ?ha15 ?_
  case hy15 =>
    intro w' hS'
    go_simp
    with_reducible rfl
  case ha15 =>
    simp only [Act.put, List.setIfInBounds_toArray, List.set_cons_zero, List.set_cons_succ]
    rfl
  refine plan_v (i := 17) (N := (some 52)) (v := ?v17) (a' := ?b17) rfl rfl hS8.out (by rfl) ?hy17 ?ha17 ?_
  case hy17 =>
    intro w' hS'
    have f0 : w'.cell? ⟨w2.heap.size, 0, none⟩ = some (.int .i64 f.bits) := hS'.2.cell 0
    have f1 : w'.cell? ⟨w2.heap.size, 1, none⟩ = some (.int .i64 f.depth) := hS'.2.cell 1
    have f2 : w'.cell? ⟨w2.heap.size, 2, none⟩ = some (.bool (!f.big)) := hS'.2.cell 2
    have f3 : w'.cell? ⟨w2.heap.size, 3, none⟩ = some (.bool f.tru) := hS'.2.cell 3
    have f4 : w'.cell? ⟨w2.heap.size, 4, none⟩ = some (.int .i64 f.rm) := hS'.2.cell 4
    have f5 : w'.cell? ⟨w2.heap.size, 5, none⟩ = some (.int .i64 f.gm) := hS'.2.cell 5
    have f6 : w'.cell? ⟨w2.heap.size, 6, none⟩ = some (.int .i64 f.bm) := hS'.2.cell 6
    have f7 : w'.cell? ⟨w2.heap.size, 7, none⟩ = some (.int .i64 f.rs) := hS'.2.cell 7
    have f8 : w'.cell? ⟨w2.heap.size, 8, none⟩ = some (.int .i64 f.gs) := hS'.2.cell 8
    have f9 : w'.cell? ⟨w2.heap.size, 9, none⟩ = some (.int .i64 f.bs) := hS'.2.cell 9
    go_simp
    with_reducible rfl
  case ha17 =>
    simp only [Act.put, List.setIfInBounds_toArray, List.set_cons_zero, List.set_cons_succ]
    rfl
  refine plan_v (i := 18) (N := (some 53)) (v := ?v18) (a' := ?b18) rfl rfl hS8.out (by rfl) ?hy18 ?ha18 ?_
  case hy18 =>
    intro w' hS'
    go_simp
    with_reducible rfl
  case ha18 =>
    simp only [Act.put, List.setIfInBounds_toArray, List.set_cons_zero, List.set_cons_succ]
    rfl
  refine plan_e (i := 16) rfl (by rfl) (fun K hK => ?_)
  go_simp
  refine (KVf.out _).mono ?_
  rintro e w9 ⟨rfl, hb⟩
  have hS9 : Hid (Blk w.heap.size 23 #[.int .i64 f.bits, .int .i64 f.depth, .bool f.big, .bool f.tru, .int .i64 f.rm, .int .i64 f.gm, .int .i64 f.bm, .int .i64 f.rs, .int .i64 f.gs, .int .i64 f.bs] w9 ∧ Blk w2.heap.size 23 #[.int .i64 f.bits, .int .i64 f.depth, .bool (!f.big), .bool f.tru, .int .i64 f.rm, .int .i64 f.gm, .int .i64 f.bm, .int .i64 f.rs, .int .i64 f.gs, .int .i64 f.bs] w9) := hide ⟨hS8.out.1.below hb, hS8.out.2.below hb⟩
  have B9 := hide (B8.out.trans (hb.mono B8.out.size))
  clear hb
  refine hK _ _ (fun _ => hS9.out) ?_
  clear hK K
  refine plan_e (i := 19) rfl (by rfl) (fun K hK => ?_)
  go_simp
  refine (KVg.out _).mono ?_
  rintro e w10 ⟨rfl, hb⟩
  have hS10 : Hid (Blk w.heap.size 23 #[.int .i64 f.bits, .int .i64 f.depth, .bool f.big, .bool f.tru, .int .i64 f.rm, .int .i64 f.gm, .int .i64 f.bm, .int .i64 f.rs, .int .i64 f.gs, .int .i64 f.bs] w10 ∧ Blk w2.heap.size 23 #[.int .i64 f.bits, .int .i64 f.depth, .bool (!f.big), .bool f.tru, .int .i64 f.rm, .int .i64 f.gm, .int .i64 f.bm, .int .i64 f.rs, .int .i64 f.gs, .int .i64 f.bs] w10) := hide ⟨hS9.out.1.below hb, hS9.out.2.below hb⟩
  have B10 := hide (B9.out.trans (hb.mono B9.out.size))
  clear hb
  refine hK _ _ (fun _ => hS10.out) ?_
  clear hK K
  refine plan_v (i := 20) (N := (some 55)) (v := ?v20) (a' := ?b20) rfl rfl hS10.out (by rfl) ?hy20 ?ha20 ?_
  case hy20 =>
    intro w' hS'
    go_simp
    with_reducible rfl
  case ha20 =>
    simp only [Act.put, List.setIfInBounds_toArray, List.set_cons_zero, List.set_cons_succ]
    rfl
  refine plan_v (i := 21) (N := (some 56)) (v := ?v21) (a' := ?b21) rfl rfl hS10.out (by rfl) ?hy21 ?ha21 ?_
  case hy21 =>
    intro w' hS'
    go_simp
    with_reducible rfl
  case ha21 =>
    simp only [Act.put, List.setIfInBounds_toArray, List.set_cons_zero, List.set_cons_succ]
    rfl
  refine plan_v (i := 22) (N := (some 57)) (v := ?v22) (a' := ?b22) rfl rfl hS10.out (by rfl) ?hy22 ?ha22 ?_
  case hy22 =>
    intro w' hS'
    go_simp
    with_reducible rfl
  case ha22 =>
    simp only [Act.put, List.setIfInBounds_toArray, List.set_cons_zero, List.set_cons_succ]
    rfl
  refine plan_v (i := 23) (N := (some 58)) (v := ?v23) (a' := ?b23) rfl rfl hS10.out (by rfl) ?hy23 ?ha23 ?_
  case hy23 =>
    intro w' hS'
    have f0 : w'.cell? ⟨w.heap.size, 0, none⟩ = some (.int .i64 f.bits) := hS'.1.cell 0
    have f1 : w'.cell? ⟨w.heap.size, 1, none⟩ = some (.int .i64 f.depth) := hS'.1.cell 1
    have f2 : w'.cell? ⟨w.heap.size, 2, none⟩ = some (.bool f.big) := hS'.1.cell 2
    have f3 : w'.cell? ⟨w.heap.size, 3, none⟩ = some (.bool f.tru) := hS'.1.cell 3
    have f4 : w'.cell? ⟨w.heap.size, 4, none⟩ = some (.int .i64 f.rm) := hS'.1.cell 4
    have f5 : w'.cell? ⟨w.heap.size, 5, none⟩ = some (.int .i64 f.gm) := hS'.1.cell 5
    have f6 : w'.cell? ⟨w.heap.size, 6, none⟩ = some (.int .i64 f.bm) := hS'.1.cell 6
    have f7 : w'.cell? ⟨w.heap.size, 7, none⟩ = some (.int .i64 f.rs) := hS'.1.cell 7
    have f8 : w'.cell? ⟨w.heap.size, 8, none⟩ = some (.int .i64 f.gs) := hS'.1.cell 8
    have f9 : w'.cell? ⟨w.heap.size, 9, none⟩ = some (.int .i64 f.bs) := hS'.1.cell 9
    go_simp
    with_reducible rfl
  case ha23 =>
    simp only [Act.put, List.setIfInBounds_toArray, List.set_cons_zero, List.set_cons_succ]
    rfl
  refine plan_v (i := 24) (N := (some 59)) (v := ?v24) (a' := ?b24) rfl rfl hS10.out (by rfl) ?hy24 ?ha24 ?_
  case hy24 =>
    intro w' hS'
    go_simp
    with_reducible rfl
  case ha24 =>
    simp only [Act.put, List.setIfInBounds_toArray, List.set_cons_zero, List.set_cons_succ]
    rfl
  refine plan_v (i := 26) (N := (some 61)) (v := ?v26) (a' := ?b26) rfl rfl hS10.out (by rfl) ?hy26 ?ha26 ?_
  case hy26 =>
    intro w' hS'
    have f0 : w'.cell? ⟨w2.heap.size, 0, none⟩ = some (.int .i64 f.bits) := hS'.2.cell 0
    have f1 : w'.cell? ⟨w2.heap.size, 1, none⟩ = some (.int .i64 f.depth) := hS'.2.cell 1
    have f2 : w'.cell? ⟨w2.heap.size, 2, none⟩ = some (.bool (!f.big)) := hS'.2.cell 2
    have f3 : w'.cell? ⟨w2.heap.size, 3, none⟩ = some (.bool f.tru) := hS'.2.cell 3
    have f4 : w'.cell? ⟨w2.heap.size, 4, none⟩ = some (.int .i64 f.rm) := hS'.2.cell 4
    have f5 : w'.cell? ⟨w2.heap.size, 5, none⟩ = some (.int .i64 f.gm) := hS'.2.cell 5
    have f6 : w'.cell? ⟨w2.heap.size, 6, none⟩ = some (.int .i64 f.bm) := hS'.2.cell 6
    have f7 : w'.cell? ⟨w2.heap.size, 7, none⟩ = some (.int .i64 f.rs) := hS'.2.cell 7
    have f8 : w'.cell? ⟨w2.heap.size, 8, none⟩ = some (.int .i64 f.gs) := hS'.2.cell 8
    have f9 : w'.cell? ⟨w2.heap.size, 9, none⟩ = some (.int .i64 f.bs) := hS'.2.cell 9
    go_simp
    with_reducible rfl
  case ha26 =>
    simp only [Act.put, List.setIfInBounds_toArray, List.set_cons_zero, List.set_cons_succ]
    rfl
  refine plan_v (i := 27) (N := (some 62)) (v := ?v27) (a' := ?b27) rfl rfl hS10.out (by rfl) ?hy27 ?ha27 ?_
  case hy27 =>
    intro w' hS'
    go_simp
    with_reducible rfl
  case ha27 =>
    simp only [Act.put, List.setIfInBounds_toArray, List.set_cons_zero, List.set_cons_succ]
    rfl
  refine plan_e (i := 25) rfl (by rfl) (fun K hK => ?_)
  go_simp
  refine (KQf.out _).mono ?_
  rintro e w11 ⟨rfl, hb⟩
  have hS11 : Hid (Blk w.heap.size 23 #[.int .i64 f.bits, .int .i64 f.depth, .bool f.big, .bool f.tru, .int .i64 f.rm, .int .i64 f.gm, .int .i64 f.bm, .int .i64 f.rs, .int .i64 f.gs, .int .i64 f.bs] w11 ∧ Blk w2.heap.size 23 #[.int .i64 f.bits, .int .i64 f.depth, .bool (!f.big), .bool f.tru, .int .i64 f.rm, .int .i64 f.gm, .int .i64 f.bm, .int .i64 f.rs, .int .i64 f.gs, .int .i64 f.bs] w11) := hide ⟨hS10.out.1.below hb, hS10.out.2.below hb⟩
  have B11 := hide (B10.out.trans (hb.mono B10.out.size))
  clear hb
  refine hK _ _ (fun _ => hS11.out) ?_
  clear hK K
  refine plan_e (i := 28) rfl (by rfl) (fun K hK => ?_)
  go_simp
  refine (KQg.out _).mono ?_
  rintro e w12 ⟨rfl, hb⟩
  have hS12 : Hid (Blk w.heap.size 23 #[.int .i64 f.bits, .int .i64 f.depth, .bool f.big, .bool f.tru, .int .i64 f.rm, .int .i64 f.gm, .int .i64 f.bm, .int .i64 f.rs, .int .i64 f.gs, .int .i64 f.bs] w12 ∧ Blk w2.heap.size 23 #[.int .i64 f.bits, .int .i64 f.depth, .bool (!f.big), .bool f.tru, .int .i64 f.rm, .int .i64 f.gm, .int .i64 f.bm, .int .i64 f.rs, .int .i64 f.gs, .int .i64 f.bs] w12) := hide ⟨hS11.out.1.below hb, hS11.out.2.below hb⟩
  have B12 := hide (B11.out.trans (hb.mono B11.out.size))
  clear hb
  refine hK _ _ (fun _ => hS12.out) ?_
  clear hK K
  refine plan_v (i := 29) (N := (some 64)) (v := ?v29) (a' := ?b29) rfl rfl hS12.out (by rfl) ?hy29 ?ha29 ?_
  case hy29 =>
    intro w' hS'
    go_simp
    with_reducible rfl
  case ha29 =>
    simp only [Act.put, List.setIfInBounds_toArray, List.set_cons_zero, List.set_cons_succ]
    rfl
  refine plan_v (i := 30) (N := (some 65)) (v := ?v30) (a' := ?b30) rfl rfl hS12.out (by rfl) ?hy30 ?ha30 ?_
  case hy30 =>
    intro w' hS'
    go_simp
    with_reducible rfl
  case ha30 =>
    simp only [Act.put, List.setIfInBounds_toArray, List.set_cons_zero, List.set_cons_succ]
    rfl
  refine plan_v (i := 31) (N := (some 66)) (v := ?v31) (a' := ?b31) rfl rfl hS12.out (by rfl) ?hy31 ?ha31 ?_
  case hy31 =>
    intro w' hS'
    go_simp
    with_reducible rfl
  case ha31 =>
    simp only [Act.put, List.setIfInBounds_toArray, List.set_cons_zero, List.set_cons_succ]
    rfl
  refine plan_v (i := 32) (N := (some 67)) (v := ?v32) (a' := ?b32) rfl rfl hS12.out (by rfl) ?hy32 ?ha32 ?_
  case hy32 =>
    intro w' hS'
    have f0 : w'.cell? ⟨w2.heap.size, 0, none⟩ = some (.int .i64 f.bits) := hS'.2.cell 0
    have f1 : w'.cell? ⟨w2.heap.size, 1, none⟩ = some (.int .i64 f.depth) := hS'.2.cell 1
    have f2 : w'.cell? ⟨w2.heap.size, 2, none⟩ = some (.bool (!f.big)) := hS'.2.cell 2
    have f3 : w'.cell? ⟨w2.heap.size, 3, none⟩ = some (.bool f.tru) := hS'.2.cell 3
    have f4 : w'.cell? ⟨w2.heap.size, 4, none⟩ = some (.int .i64 f.rm) := hS'.2.cell 4
    have f5 : w'.cell? ⟨w2.heap.size, 5, none⟩ = some (.int .i64 f.gm) := hS'.2.cell 5
    have f6 : w'.cell? ⟨w2.heap.size, 6, none⟩ = some (.int .i64 f.bm) := hS'.2.cell 6
    have f7 : w'.cell? ⟨w2.heap.size, 7, none⟩ = some (.int .i64 f.rs) := hS'.2.cell 7
    have f8 : w'.cell? ⟨w2.heap.size, 8, none⟩ = some (.int .i64 f.gs) := hS'.2.cell 8
    have f9 : w'.cell? ⟨w2.heap.size, 9, none⟩ = some (.int .i64 f.bs) := hS'.2.cell 9
    go_simp
    with_reducible rfl
  case ha32 =>
    simp only [Act.put, List.setIfInBounds_toArray, List.set_cons_zero, List.set_cons_succ]
    rfl
  refine plan_e (i := 33) rfl (by rfl) (fun K hK => ?_)
  go_simp
  refine (K17g.out _).mono ?_
  rintro e w13 ⟨rfl, hb⟩
  have hS13 : Hid (Blk w.heap.size 23 #[.int .i64 f.bits, .int .i64 f.depth, .bool f.big, .bool f.tru, .int .i64 f.rm, .int .i64 f.gm, .int .i64 f.bm, .int .i64 f.rs, .int .i64 f.gs, .int .i64 f.bs] w13 ∧ Blk w2.heap.size 23 #[.int .i64 f.bits, .int .i64 f.depth, .bool (!f.big), .bool f.tru, .int .i64 f.rm, .int .i64 f.gm, .int .i64 f.bm, .int .i64 f.rs, .int .i64 f.gs, .int .i64 f.bs] w13) := hide ⟨hS12.out.1.below hb, hS12.out.2.below hb⟩
  have B13 := hide (B12.out.trans (hb.mono B12.out.size))
  clear hb
  refine hK _ _ (fun _ => hS13.out) ?_
  clear hK K
  refine plan_v (i := 34) (N := (some 69)) (v := ?v34) (a' := ?b34) rfl rfl hS13.out (by rfl) ?hy34 ?ha34 ?_
  case hy34 =>
    intro w' hS'
    go_simp
    with_reducible rfl
  case ha34 =>
    simp only [Act.put, List.setIfInBounds_toArray, List.set_cons_zero, List.set_cons_succ]
    rfl
  refine plan_v (i := 35) (N := (some 4)) (v := ?v35) (a' := ?b35) rfl rfl hS13.out (by rfl) ?hy35 ?ha35 ?_
  case hy35 =>
    intro w' hS'
    go_simp
    with_reducible rfl
  case ha35 =>
    simp only [Act.put, List.setIfInBounds_toArray, List.set_cons_zero, List.set_cons_succ]
    rfl
  refine plan_done ?_
  go_wp2_with fail
  go_ret
  exact ⟨rfl, B13.out⟩

set_option maxHeartbeats 1600000 in
set_option maxRecDepth 100000 in
theorem law7_no (f : Fmt) (n : Int) (w : World)
    (K17f : Hid (∀ w, Calls Try.prog 17 #[.agg #[.int .i64 f.bits, .int .i64 f.depth, .bool f.big, .bool f.tru, .int .i64 f.rm, .int .i64 f.gm, .int .i64 f.bm, .int .i64 f.rs, .int .i64 f.gs, .int .i64 f.bs]] w fun e w' => e = .returned (.bool false) ∧ Below w.heap.size w w'))
    : Calls Try.prog 7 #[.agg #[.int .i64 f.bits, .int .i64 f.depth, .bool f.big, .bool f.tru, .int .i64 f.rm, .int .i64 f.gm, .int .i64 f.bm, .int .i64 f.rs, .int .i64 f.gs, .int .i64 f.bs], .int .i64 n] w fun e w' => e = .returned (.bool true) ∧ Below w.heap.size w w' := by
  have F0 := hide (Blk.new w 23 #[.int .i64 f.bits, .int .i64 f.depth, .bool f.big, .bool f.tru, .int .i64 f.rm, .int .i64 f.gm, .int .i64 f.bm, .int .i64 f.rs, .int .i64 f.gs, .int .i64 f.bs])
  have B0 := hide ((Below.refl w.heap.size w).alloc (Nat.le_refl _) (.cells #[.int .i64 f.bits, .int .i64 f.depth, .bool f.big, .bool f.tru, .int .i64 f.rm, .int .i64 f.gm, .int .i64 f.bm, .int .i64 f.rs, .int .i64 f.gs, .int .i64 f.bs] 23))
  go_enter Try.func7, Try.ntmps7
  go_upto_region 1 with fail
  generalize w.alloc (.cells #[.int .i64 f.bits, .int .i64 f.depth, .bool f.big, .bool f.tru, .int .i64 f.rm, .int .i64 f.gm, .int .i64 f.bm, .int .i64 f.rs, .int .i64 f.gs, .int .i64 f.bs] 23) = w0 at *
  go_wp2_with fail
  refine (works14_any _).mono ?_
  rintro e w1 ⟨rfl, hb1⟩
  have F1 := hide (F0.out.below hb1)
  have B1 := hide (B0.out.trans (hb1.mono B0.out.size))
  clear hb1
  have f0 : w1.cell? ⟨w.heap.size, 0, none⟩ = some (.int .i64 f.bits) := F1.out.cell 0
  have p0 : w1.frozen? ⟨w.heap.size, 0, none⟩ = false := F1.out.fr 0
  have f1 : w1.cell? ⟨w.heap.size, 1, none⟩ = some (.int .i64 f.depth) := F1.out.cell 1
  have p1 : w1.frozen? ⟨w.heap.size, 1, none⟩ = false := F1.out.fr 1
  have f2 : w1.cell? ⟨w.heap.size, 2, none⟩ = some (.bool f.big) := F1.out.cell 2
  have p2 : w1.frozen? ⟨w.heap.size, 2, none⟩ = false := F1.out.fr 2
  have f3 : w1.cell? ⟨w.heap.size, 3, none⟩ = some (.bool f.tru) := F1.out.cell 3
  have p3 : w1.frozen? ⟨w.heap.size, 3, none⟩ = false := F1.out.fr 3
  have f4 : w1.cell? ⟨w.heap.size, 4, none⟩ = some (.int .i64 f.rm) := F1.out.cell 4
  have p4 : w1.frozen? ⟨w.heap.size, 4, none⟩ = false := F1.out.fr 4
  have f5 : w1.cell? ⟨w.heap.size, 5, none⟩ = some (.int .i64 f.gm) := F1.out.cell 5
  have p5 : w1.frozen? ⟨w.heap.size, 5, none⟩ = false := F1.out.fr 5
  have f6 : w1.cell? ⟨w.heap.size, 6, none⟩ = some (.int .i64 f.bm) := F1.out.cell 6
  have p6 : w1.frozen? ⟨w.heap.size, 6, none⟩ = false := F1.out.fr 6
  have f7 : w1.cell? ⟨w.heap.size, 7, none⟩ = some (.int .i64 f.rs) := F1.out.cell 7
  have p7 : w1.frozen? ⟨w.heap.size, 7, none⟩ = false := F1.out.fr 7
  have f8 : w1.cell? ⟨w.heap.size, 8, none⟩ = some (.int .i64 f.gs) := F1.out.cell 8
  have p8 : w1.frozen? ⟨w.heap.size, 8, none⟩ = false := F1.out.fr 8
  have f9 : w1.cell? ⟨w.heap.size, 9, none⟩ = some (.int .i64 f.bs) := F1.out.cell 9
  have p9 : w1.frozen? ⟨w.heap.size, 9, none⟩ = false := F1.out.fr 9
  go_wp2_with fail
  refine (K17f.out _).mono ?_
  rintro e w2 ⟨rfl, hb2⟩
  have B2 := hide (B1.out.trans (hb2.mono B1.out.size))
  clear hb2
  go_wp2_with fail
  go_ret
  exact ⟨rfl, B2.out⟩

/-- The other order. -/
def flip (f : Fmt) : Fmt := ⟨f.bits, f.depth, !f.big, f.tru, f.rm, f.gm, f.bm, f.rs, f.gs, f.bs⟩

theorem leB_rev (k : Nat) (n : Int) : (⟨(beB k n).data.reverse⟩ : ByteArray) = leB k n := by
  simp [leB, beB, strOfNums_mk]

theorem ordB_flip (b : Bool) (k : Nat) (n : Int) : (⟨(ordB (!b) k n).data.reverse⟩ : ByteArray) = ordB b k n := by
  cases b
  · exact leB_rev k n
  · exact beB_rev k n

theorem ordB_size (b : Bool) (k : Nat) (n : Int) : (ordB b k n).size = k := by
  cases b
  · exact leB_size k n
  · exact beB_size k n

/-- miradorlaw13.FormatOrder. -/
theorem law7_any (f : Fmt) (n : Int) (w : World) (hf : f.fit) : Calls Try.prog 7 #[fmtV f, .int .i64 n] w fun e w' => e = .returned (.bool true) ∧ Below w.heap.size w w' := by
  have K17 := fun w => valid_fit f w hf
  cases h : validB f with
  | false =>
    rw [h] at K17
    exact law7_no f n w K17
  | true =>
    rw [h] at K17
    have hg : validB (flip f) = true := h
    have hfg : (flip f).fit := hf
    have K17g := fun w => valid_fit (flip f) w hfg
    rw [hg] at K17g
    have T1 : ∀ w, Calls Try.prog 38 #[.string (putV (flip f) n)] w fun e w' => e = .returned (.string (putV f n)) ∧ Below w.heap.size w w' := fun w => by
      have e : sizeN (flip f) = sizeN f := rfl
      have hz := size_le f
      rw [putV_eq, putV_eq, e]
      have := turned38_any (ordB (!f.big) (sizeN f) n) w (by rw [ordB_size]; omega)
      rw [ordB_flip] at this
      exact this.mono fun _ _ ⟨h1, h2⟩ => ⟨h1, h2 ▸ Below.refl _ _⟩
    have T2 : ∀ w, Calls Try.prog 38 #[.string (cputV (flip f) n)] w fun e w' => e = .returned (.string (cputV f n)) ∧ Below w.heap.size w w' := fun w => by
      have e : cputV (flip f) n = ordB (!f.big) (compS f) (n % 2 ^ f.bits.toNat / 2 ^ compH f) := rfl
      have hz := compS_le f
      rw [e]
      have := turned38_any (ordB (!f.big) (compS f) (n % 2 ^ f.bits.toNat / 2 ^ compH f)) w (by rw [ordB_size]; omega)
      rw [ordB_flip] at this
      exact this.mono fun _ _ ⟨h1, h2⟩ => ⟨h1, h2 ▸ Below.refl _ _⟩
    exact law7_walk f n (valV f n) (colV f n) _ _ _ _ w K17 K17g (fun w => put36_any f n w hf) (fun w => put36_any (flip f) n w hfg) (fun w => cput_any f n w hf h) (fun w => cput_any (flip f) n w hfg hg) T1 T2
      (fun w => value_any f n w h) (fun w => value_any (flip f) n w hg) (fun w => colour_any f n w h) (fun w => colour_any (flip f) n w hg)

end Go.Proofs.Ytodlpofpeoiedaa
