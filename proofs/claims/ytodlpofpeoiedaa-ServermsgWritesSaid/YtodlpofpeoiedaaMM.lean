/-
  FormatBytes: the walk.
-/
import Derived.Test.YtodlpofpeoiedaaMH
import Derived.Deep.Cut
import Derived.Test.YtodlpofpeoiedaaRows
import Derived.Lib.SmallJoins
import Derived.WalkKit
import Derived.ProofKit
import Derived.OpenShut
import Derived.ShutString
import Derived.ChangeOld
import Derived.Below
namespace Go.Proofs.Ytodlpofpeoiedaa
open Go.RowKit

set_option maxHeartbeats 3200000 in
set_option maxRecDepth 100000 in
theorem law3_walk (f p : Fmt) (s S : ByteArray) (V : Bool) (E : Int) (w : World) (hs : (s.size : Int) ≤ 60)
    (K15 : Hid (∀ w, Calls Try.prog 15 #[.string s] w fun e w' => e = .returned (.tuple #[.agg #[.int .i64 p.bits, .int .i64 p.depth, .bool p.big, .bool p.tru, .int .i64 p.rm, .int .i64 p.gm, .int .i64 p.bm, .int .i64 p.rs, .int .i64 p.gs, .int .i64 p.bs], .int .i64 E]) ∧ Below w.heap.size w w'))
    (K16 : Hid (∀ w, Calls Try.prog 16 #[.string s] w fun e w' => e = .returned (.tuple #[.agg #[.int .i64 p.bits, .int .i64 p.depth, .bool p.big, .bool p.tru, .int .i64 p.rm, .int .i64 p.gm, .int .i64 p.bm, .int .i64 p.rs, .int .i64 p.gs, .int .i64 p.bs], .int .i64 E]) ∧ Below w.heap.size w w'))
    (K17 : Hid (∀ w, Calls Try.prog 17 #[.agg #[.int .i64 f.bits, .int .i64 f.depth, .bool f.big, .bool f.tru, .int .i64 f.rm, .int .i64 f.gm, .int .i64 f.bm, .int .i64 f.rs, .int .i64 f.gs, .int .i64 f.bs]] w fun e w' => e = .returned (.bool V) ∧ Below w.heap.size w w'))
    (K18 : Hid (∀ w, Calls Try.prog 18 #[.agg #[.int .i64 f.bits, .int .i64 f.depth, .bool f.big, .bool f.tru, .int .i64 f.rm, .int .i64 f.gm, .int .i64 f.bm, .int .i64 f.rs, .int .i64 f.gs, .int .i64 f.bs]] w fun e w' => e = .returned (.bool V) ∧ Below w.heap.size w w'))
    (K19 : Hid (∀ w, Calls Try.prog 19 #[.agg #[.int .i64 f.bits, .int .i64 f.depth, .bool f.big, .bool f.tru, .int .i64 f.rm, .int .i64 f.gm, .int .i64 f.bm, .int .i64 f.rs, .int .i64 f.gs, .int .i64 f.bs]] w fun e w' => e = .returned (.string S) ∧ Below w.heap.size w w'))
    (K20 : Hid (∀ w, Calls Try.prog 20 #[.agg #[.int .i64 f.bits, .int .i64 f.depth, .bool f.big, .bool f.tru, .int .i64 f.rm, .int .i64 f.gm, .int .i64 f.bm, .int .i64 f.rs, .int .i64 f.gs, .int .i64 f.bs]] w fun e w' => e = .returned (.string S) ∧ Below w.heap.size w w')) :
    Calls Try.prog 3 #[.agg #[.int .i64 f.bits, .int .i64 f.depth, .bool f.big, .bool f.tru, .int .i64 f.rm, .int .i64 f.gm, .int .i64 f.bm, .int .i64 f.rs, .int .i64 f.gs, .int .i64 f.bs], .string s] w fun e w' => e = .returned (.bool true) ∧ Below w.heap.size w w' := by
  have F0 := hide (Blk.new w 23 #[.int .i64 f.bits, .int .i64 f.depth, .bool f.big, .bool f.tru, .int .i64 f.rm, .int .i64 f.gm, .int .i64 f.bm, .int .i64 f.rs, .int .i64 f.gs, .int .i64 f.bs])
  have B0 := hide ((Below.refl w.heap.size w).alloc (Nat.le_refl _) (.cells #[.int .i64 f.bits, .int .i64 f.depth, .bool f.big, .bool f.tru, .int .i64 f.rm, .int .i64 f.gm, .int .i64 f.bm, .int .i64 f.rs, .int .i64 f.gs, .int .i64 f.bs] 23))
  go_enter Try.func3, Try.ntmps3
  go_upto_region 1 with fail
  generalize w.alloc (.cells #[.int .i64 f.bits, .int .i64 f.depth, .bool f.big, .bool f.tru, .int .i64 f.rm, .int .i64 f.gm, .int .i64 f.bm, .int .i64 f.rs, .int .i64 f.gs, .int .i64 f.bs] 23) = w0 at *
  go_wp2_with fail
  refine (works14_any _).mono ?_
  rintro e w1 ⟨rfl, hb1⟩
  have F1 := hide (F0.out.below hb1)
  have B1 := hide (B0.out.trans (hb1.mono B0.out.size))
  clear hb1
  go_wp2_with fail
  refine (K15.out _).mono ?_
  rintro e w2 ⟨rfl, hb2⟩
  have F2 := hide (F1.out.below hb2)
  have B2 := hide (B1.out.trans (hb2.mono B1.out.size))
  clear hb2
  go_wp2_with fail
  refine (K16.out _).mono ?_
  rintro e w3 ⟨rfl, hb3⟩
  have F3 := hide ((F2.out.alloc _).below hb3)
  have G3 := hide ((Blk.new w2 23 #[.int .i64 p.bits, .int .i64 p.depth, .bool p.big, .bool p.tru, .int .i64 p.rm, .int .i64 p.gm, .int .i64 p.bm, .int .i64 p.rs, .int .i64 p.gs, .int .i64 p.bs]).below hb3)
  have B3 := hide ((B2.out.alloc B2.out.size _).trans (hb3.mono (by rw [World.size_alloc]; exact Nat.le_succ_of_le B2.out.size)))
  clear hb3
  go_upto_region 8 with fail
  have hS4 : Hid (Blk w.heap.size 23 #[.int .i64 f.bits, .int .i64 f.depth, .bool f.big, .bool f.tru, .int .i64 f.rm, .int .i64 f.gm, .int .i64 f.bm, .int .i64 f.rs, .int .i64 f.gs, .int .i64 f.bs] (w3.alloc (.cells #[.int .i64 p.bits, .int .i64 p.depth, .bool p.big, .bool p.tru, .int .i64 p.rm, .int .i64 p.gm, .int .i64 p.bm, .int .i64 p.rs, .int .i64 p.gs, .int .i64 p.bs] 23)).drew ∧ Blk w2.heap.size 23 #[.int .i64 p.bits, .int .i64 p.depth, .bool p.big, .bool p.tru, .int .i64 p.rm, .int .i64 p.gm, .int .i64 p.bm, .int .i64 p.rs, .int .i64 p.gs, .int .i64 p.bs] (w3.alloc (.cells #[.int .i64 p.bits, .int .i64 p.depth, .bool p.big, .bool p.tru, .int .i64 p.rm, .int .i64 p.gm, .int .i64 p.bm, .int .i64 p.rs, .int .i64 p.gs, .int .i64 p.bs] 23)).drew ∧ Blk w3.heap.size 23 #[.int .i64 p.bits, .int .i64 p.depth, .bool p.big, .bool p.tru, .int .i64 p.rm, .int .i64 p.gm, .int .i64 p.bm, .int .i64 p.rs, .int .i64 p.gs, .int .i64 p.bs] (w3.alloc (.cells #[.int .i64 p.bits, .int .i64 p.depth, .bool p.big, .bool p.tru, .int .i64 p.rm, .int .i64 p.gm, .int .i64 p.bm, .int .i64 p.rs, .int .i64 p.gs, .int .i64 p.bs] 23)).drew) := hide ⟨F3.out.alloc _, G3.out.alloc _, Blk.new w3 23 _⟩
  have B4 : Hid (Below w.heap.size w (w3.alloc (.cells #[.int .i64 p.bits, .int .i64 p.depth, .bool p.big, .bool p.tru, .int .i64 p.rm, .int .i64 p.gm, .int .i64 p.bm, .int .i64 p.rs, .int .i64 p.gs, .int .i64 p.bs] 23)).drew) := hide (B3.out.alloc B3.out.size _).drew
  clear F0 F1 F2 F3 G3
  refine plan_region [(0, true), (1, true), (2, true), (4, true), (3, false), (5, false), (6, true), (7, true), (8, true), (9, true), (11, true), (10, false), (12, false), (13, true), (14, true), (15, true), (16, true), (17, true), (18, true), (19, true), (20, true), (21, true), (22, true), (23, true), (24, true), (25, true), (26, false), (27, false), (28, true), (29, true), (30, true)] (fun w' => Blk w.heap.size 23 #[.int .i64 f.bits, .int .i64 f.depth, .bool f.big, .bool f.tru, .int .i64 f.rm, .int .i64 f.gm, .int .i64 f.bm, .int .i64 f.rs, .int .i64 f.gs, .int .i64 f.bs] w' ∧ Blk w2.heap.size 23 #[.int .i64 p.bits, .int .i64 p.depth, .bool p.big, .bool p.tru, .int .i64 p.rm, .int .i64 p.gm, .int .i64 p.bm, .int .i64 p.rs, .int .i64 p.gs, .int .i64 p.bs] w' ∧ Blk w3.heap.size 23 #[.int .i64 p.bits, .int .i64 p.depth, .bool p.big, .bool p.tru, .int .i64 p.rm, .int .i64 p.gm, .int .i64 p.bm, .int .i64 p.rs, .int .i64 p.gs, .int .i64 p.bs] w') [] rfl (by kernel_rfl) (fun _ _ d _ _ h => by cases d <;> exact h) ?_
  generalize (w3.alloc (.cells #[.int .i64 p.bits, .int .i64 p.depth, .bool p.big, .bool p.tru, .int .i64 p.rm, .int .i64 p.gm, .int .i64 p.bm, .int .i64 p.rs, .int .i64 p.gs, .int .i64 p.bs] 23)).drew = w4 at *
  refine plan_v (i := 0) (N := (some 27)) (v := ?v0) (a' := ?b0) rfl rfl hS4.out (by rfl) ?hy0 ?ha0 ?_
  case hy0 =>
    intro w' hS'
    go_simp
    with_reducible rfl
  case ha0 =>
    simp only [Act.put, List.setIfInBounds_toArray, List.set_cons_zero, List.set_cons_succ]
    rfl
  refine plan_v (i := 1) (N := (some 28)) (v := ?v1) (a' := ?b1) rfl rfl hS4.out (by rfl) ?hy1 ?ha1 ?_
  case hy1 =>
    intro w' hS'
    go_simp
    with_reducible rfl
  case ha1 =>
    simp only [Act.put, List.setIfInBounds_toArray, List.set_cons_zero, List.set_cons_succ]
    rfl
  refine plan_v (i := 2) (N := (some 29)) (v := ?v2) (a' := ?b2) rfl rfl hS4.out (by rfl) ?hy2 ?ha2 ?_
  case hy2 =>
    intro w' hS'
    have f0 : w'.cell? ⟨w.heap.size, 0, none⟩ = some (.int .i64 f.bits) := hS'.1.cell 0
    have f1 : w'.cell? ⟨w.heap.size, 1, none⟩ = some (.int .i64 f.depth) := hS'.1.cell 1
    have f2 : w'.cell? ⟨w.heap.size, 2, none⟩ = some (.bool f.big) := hS'.1.cell 2
    have f3 : w'.cell? ⟨w.heap.size, 3, none⟩ = some (.bool f.tru) := hS'.1.cell 3
    have f4 : w'.cell? ⟨w.heap.size, 4, none⟩ = some (.int .i64 f.rm) := hS'.1.cell 4
    have f5 : w'.cell? ⟨w.heap.size, 5, none⟩ = some (.int .i64 f.gm) := hS'.1.cell 5
    have f6 : w'.cell? ⟨w.heap.size, 6, none⟩ = some (.int .i64 f.bm) := hS'.1.cell 6
    have f7 : w'.cell? ⟨w.heap.size, 7, none⟩ = some (.int .i64 f.rs) := hS'.1.cell 7
    have f8 : w'.cell? ⟨w.heap.size, 8, none⟩ = some (.int .i64 f.gs) := hS'.1.cell 8
    have f9 : w'.cell? ⟨w.heap.size, 9, none⟩ = some (.int .i64 f.bs) := hS'.1.cell 9
    go_simp
    with_reducible rfl
  case ha2 =>
    simp only [Act.put, List.setIfInBounds_toArray, List.set_cons_zero, List.set_cons_succ]
    rfl
  refine plan_v (i := 4) (N := (some 31)) (v := ?v4) (a' := ?b4) rfl rfl hS4.out (by rfl) ?hy4 ?ha4 ?_
  case hy4 =>
    intro w' hS'
    have f0 : w'.cell? ⟨w.heap.size, 0, none⟩ = some (.int .i64 f.bits) := hS'.1.cell 0
    have f1 : w'.cell? ⟨w.heap.size, 1, none⟩ = some (.int .i64 f.depth) := hS'.1.cell 1
    have f2 : w'.cell? ⟨w.heap.size, 2, none⟩ = some (.bool f.big) := hS'.1.cell 2
    have f3 : w'.cell? ⟨w.heap.size, 3, none⟩ = some (.bool f.tru) := hS'.1.cell 3
    have f4 : w'.cell? ⟨w.heap.size, 4, none⟩ = some (.int .i64 f.rm) := hS'.1.cell 4
    have f5 : w'.cell? ⟨w.heap.size, 5, none⟩ = some (.int .i64 f.gm) := hS'.1.cell 5
    have f6 : w'.cell? ⟨w.heap.size, 6, none⟩ = some (.int .i64 f.bm) := hS'.1.cell 6
    have f7 : w'.cell? ⟨w.heap.size, 7, none⟩ = some (.int .i64 f.rs) := hS'.1.cell 7
    have f8 : w'.cell? ⟨w.heap.size, 8, none⟩ = some (.int .i64 f.gs) := hS'.1.cell 8
    have f9 : w'.cell? ⟨w.heap.size, 9, none⟩ = some (.int .i64 f.bs) := hS'.1.cell 9
    go_simp
    with_reducible rfl
  case ha4 =>
    simp only [Act.put, List.setIfInBounds_toArray, List.set_cons_zero, List.set_cons_succ]
    rfl
  refine plan_e (i := 3) rfl (by rfl) (fun K hK => ?_)
  go_simp
  refine (K17.out _).mono ?_
  rintro e w5 ⟨rfl, hb⟩
  have hS5 : Hid (Blk w.heap.size 23 #[.int .i64 f.bits, .int .i64 f.depth, .bool f.big, .bool f.tru, .int .i64 f.rm, .int .i64 f.gm, .int .i64 f.bm, .int .i64 f.rs, .int .i64 f.gs, .int .i64 f.bs] w5 ∧ Blk w2.heap.size 23 #[.int .i64 p.bits, .int .i64 p.depth, .bool p.big, .bool p.tru, .int .i64 p.rm, .int .i64 p.gm, .int .i64 p.bm, .int .i64 p.rs, .int .i64 p.gs, .int .i64 p.bs] w5 ∧ Blk w3.heap.size 23 #[.int .i64 p.bits, .int .i64 p.depth, .bool p.big, .bool p.tru, .int .i64 p.rm, .int .i64 p.gm, .int .i64 p.bm, .int .i64 p.rs, .int .i64 p.gs, .int .i64 p.bs] w5) := hide ⟨hS4.out.1.below hb, hS4.out.2.1.below hb, hS4.out.2.2.below hb⟩
  have B5 := hide (B4.out.trans (hb.mono B4.out.size))
  clear hb
  refine hK _ _ (fun _ => hS5.out) ?_
  clear hK K
  refine plan_e (i := 5) rfl (by rfl) (fun K hK => ?_)
  go_simp
  refine (K18.out _).mono ?_
  rintro e w6 ⟨rfl, hb⟩
  have hS6 : Hid (Blk w.heap.size 23 #[.int .i64 f.bits, .int .i64 f.depth, .bool f.big, .bool f.tru, .int .i64 f.rm, .int .i64 f.gm, .int .i64 f.bm, .int .i64 f.rs, .int .i64 f.gs, .int .i64 f.bs] w6 ∧ Blk w2.heap.size 23 #[.int .i64 p.bits, .int .i64 p.depth, .bool p.big, .bool p.tru, .int .i64 p.rm, .int .i64 p.gm, .int .i64 p.bm, .int .i64 p.rs, .int .i64 p.gs, .int .i64 p.bs] w6 ∧ Blk w3.heap.size 23 #[.int .i64 p.bits, .int .i64 p.depth, .bool p.big, .bool p.tru, .int .i64 p.rm, .int .i64 p.gm, .int .i64 p.bm, .int .i64 p.rs, .int .i64 p.gs, .int .i64 p.bs] w6) := hide ⟨hS5.out.1.below hb, hS5.out.2.1.below hb, hS5.out.2.2.below hb⟩
  have B6 := hide (B5.out.trans (hb.mono B5.out.size))
  clear hb
  refine hK _ _ (fun _ => hS6.out) ?_
  clear hK K
  refine plan_v (i := 6) (N := (some 33)) (v := ?v6) (a' := ?b6) rfl rfl hS6.out (by rfl) ?hy6 ?ha6 ?_
  case hy6 =>
    intro w' hS'
    go_simp
    with_reducible rfl
  case ha6 =>
    simp only [Act.put, List.setIfInBounds_toArray, List.set_cons_zero, List.set_cons_succ]
    rfl
  refine plan_v (i := 7) (N := (some 34)) (v := ?v7) (a' := ?b7) rfl rfl hS6.out (by rfl) ?hy7 ?ha7 ?_
  case hy7 =>
    intro w' hS'
    go_simp
    with_reducible rfl
  case ha7 =>
    simp only [Act.put, List.setIfInBounds_toArray, List.set_cons_zero, List.set_cons_succ]
    rfl
  refine plan_v (i := 8) (N := (some 35)) (v := ?v8) (a' := ?b8) rfl rfl hS6.out (by rfl) ?hy8 ?ha8 ?_
  case hy8 =>
    intro w' hS'
    go_simp
    with_reducible rfl
  case ha8 =>
    simp only [Act.put, List.setIfInBounds_toArray, List.set_cons_zero, List.set_cons_succ]
    rfl
  refine plan_v (i := 9) (N := (some 36)) (v := ?v9) (a' := ?b9) rfl rfl hS6.out (by rfl) ?hy9 ?ha9 ?_
  case hy9 =>
    intro w' hS'
    have f0 : w'.cell? ⟨w.heap.size, 0, none⟩ = some (.int .i64 f.bits) := hS'.1.cell 0
    have f1 : w'.cell? ⟨w.heap.size, 1, none⟩ = some (.int .i64 f.depth) := hS'.1.cell 1
    have f2 : w'.cell? ⟨w.heap.size, 2, none⟩ = some (.bool f.big) := hS'.1.cell 2
    have f3 : w'.cell? ⟨w.heap.size, 3, none⟩ = some (.bool f.tru) := hS'.1.cell 3
    have f4 : w'.cell? ⟨w.heap.size, 4, none⟩ = some (.int .i64 f.rm) := hS'.1.cell 4
    have f5 : w'.cell? ⟨w.heap.size, 5, none⟩ = some (.int .i64 f.gm) := hS'.1.cell 5
    have f6 : w'.cell? ⟨w.heap.size, 6, none⟩ = some (.int .i64 f.bm) := hS'.1.cell 6
    have f7 : w'.cell? ⟨w.heap.size, 7, none⟩ = some (.int .i64 f.rs) := hS'.1.cell 7
    have f8 : w'.cell? ⟨w.heap.size, 8, none⟩ = some (.int .i64 f.gs) := hS'.1.cell 8
    have f9 : w'.cell? ⟨w.heap.size, 9, none⟩ = some (.int .i64 f.bs) := hS'.1.cell 9
    go_simp
    with_reducible rfl
  case ha9 =>
    simp only [Act.put, List.setIfInBounds_toArray, List.set_cons_zero, List.set_cons_succ]
    rfl
  refine plan_v (i := 11) (N := (some 38)) (v := ?v11) (a' := ?b11) rfl rfl hS6.out (by rfl) ?hy11 ?ha11 ?_
  case hy11 =>
    intro w' hS'
    have f0 : w'.cell? ⟨w.heap.size, 0, none⟩ = some (.int .i64 f.bits) := hS'.1.cell 0
    have f1 : w'.cell? ⟨w.heap.size, 1, none⟩ = some (.int .i64 f.depth) := hS'.1.cell 1
    have f2 : w'.cell? ⟨w.heap.size, 2, none⟩ = some (.bool f.big) := hS'.1.cell 2
    have f3 : w'.cell? ⟨w.heap.size, 3, none⟩ = some (.bool f.tru) := hS'.1.cell 3
    have f4 : w'.cell? ⟨w.heap.size, 4, none⟩ = some (.int .i64 f.rm) := hS'.1.cell 4
    have f5 : w'.cell? ⟨w.heap.size, 5, none⟩ = some (.int .i64 f.gm) := hS'.1.cell 5
    have f6 : w'.cell? ⟨w.heap.size, 6, none⟩ = some (.int .i64 f.bm) := hS'.1.cell 6
    have f7 : w'.cell? ⟨w.heap.size, 7, none⟩ = some (.int .i64 f.rs) := hS'.1.cell 7
    have f8 : w'.cell? ⟨w.heap.size, 8, none⟩ = some (.int .i64 f.gs) := hS'.1.cell 8
    have f9 : w'.cell? ⟨w.heap.size, 9, none⟩ = some (.int .i64 f.bs) := hS'.1.cell 9
    go_simp
    with_reducible rfl
  case ha11 =>
    simp only [Act.put, List.setIfInBounds_toArray, List.set_cons_zero, List.set_cons_succ]
    rfl
  refine plan_e (i := 10) rfl (by rfl) (fun K hK => ?_)
  go_simp
  refine (K19.out _).mono ?_
  rintro e w7 ⟨rfl, hb⟩
  have hS7 : Hid (Blk w.heap.size 23 #[.int .i64 f.bits, .int .i64 f.depth, .bool f.big, .bool f.tru, .int .i64 f.rm, .int .i64 f.gm, .int .i64 f.bm, .int .i64 f.rs, .int .i64 f.gs, .int .i64 f.bs] w7 ∧ Blk w2.heap.size 23 #[.int .i64 p.bits, .int .i64 p.depth, .bool p.big, .bool p.tru, .int .i64 p.rm, .int .i64 p.gm, .int .i64 p.bm, .int .i64 p.rs, .int .i64 p.gs, .int .i64 p.bs] w7 ∧ Blk w3.heap.size 23 #[.int .i64 p.bits, .int .i64 p.depth, .bool p.big, .bool p.tru, .int .i64 p.rm, .int .i64 p.gm, .int .i64 p.bm, .int .i64 p.rs, .int .i64 p.gs, .int .i64 p.bs] w7) := hide ⟨hS6.out.1.below hb, hS6.out.2.1.below hb, hS6.out.2.2.below hb⟩
  have B7 := hide (B6.out.trans (hb.mono B6.out.size))
  clear hb
  refine hK _ _ (fun _ => hS7.out) ?_
  clear hK K
  refine plan_e (i := 12) rfl (by rfl) (fun K hK => ?_)
  go_simp
  refine (K20.out _).mono ?_
  rintro e w8 ⟨rfl, hb⟩
  have hS8 : Hid (Blk w.heap.size 23 #[.int .i64 f.bits, .int .i64 f.depth, .bool f.big, .bool f.tru, .int .i64 f.rm, .int .i64 f.gm, .int .i64 f.bm, .int .i64 f.rs, .int .i64 f.gs, .int .i64 f.bs] w8 ∧ Blk w2.heap.size 23 #[.int .i64 p.bits, .int .i64 p.depth, .bool p.big, .bool p.tru, .int .i64 p.rm, .int .i64 p.gm, .int .i64 p.bm, .int .i64 p.rs, .int .i64 p.gs, .int .i64 p.bs] w8 ∧ Blk w3.heap.size 23 #[.int .i64 p.bits, .int .i64 p.depth, .bool p.big, .bool p.tru, .int .i64 p.rm, .int .i64 p.gm, .int .i64 p.bm, .int .i64 p.rs, .int .i64 p.gs, .int .i64 p.bs] w8) := hide ⟨hS7.out.1.below hb, hS7.out.2.1.below hb, hS7.out.2.2.below hb⟩
  have B8 := hide (B7.out.trans (hb.mono B7.out.size))
  clear hb
  refine hK _ _ (fun _ => hS8.out) ?_
  clear hK K
  refine plan_v (i := 13) (N := (some 40)) (v := ?v13) (a' := ?b13) rfl rfl hS8.out (by rfl) ?hy13 ?ha13 ?_
  case hy13 =>
    intro w' hS'
    go_simp
    with_reducible rfl
  case ha13 =>
    simp only [Act.put, List.setIfInBounds_toArray, List.set_cons_zero, List.set_cons_succ]
    rfl
  refine plan_v (i := 14) (N := (some 41)) (v := ?v14) (a' := ?b14) rfl rfl hS8.out (by rfl) ?hy14 ?ha14 ?_
  case hy14 =>
    intro w' hS'
    go_simp
    with_reducible rfl
  case ha14 =>
    simp only [Act.put, List.setIfInBounds_toArray, List.set_cons_zero, List.set_cons_succ]
    rfl
  refine plan_v (i := 15) (N := (some 42)) (v := ?v15) (a' := ?b15) rfl rfl hS8.out (by rfl) ?hy15 ?ha15 ?_
  case hy15 =>
    intro w' hS'
    go_simp
    with_reducible rfl
  case ha15 =>
    simp only [Act.put, List.setIfInBounds_toArray, List.set_cons_zero, List.set_cons_succ]
    rfl
  refine plan_v (i := 16) (N := (some 43)) (v := ?v16) (a' := ?b16) rfl rfl hS8.out (by rfl) ?hy16 ?ha16 ?_
  case hy16 =>
    intro w' hS'
    have f0 : w'.cell? ⟨w2.heap.size, 0, none⟩ = some (.int .i64 p.bits) := hS'.2.1.cell 0
    have f1 : w'.cell? ⟨w2.heap.size, 1, none⟩ = some (.int .i64 p.depth) := hS'.2.1.cell 1
    have f2 : w'.cell? ⟨w2.heap.size, 2, none⟩ = some (.bool p.big) := hS'.2.1.cell 2
    have f3 : w'.cell? ⟨w2.heap.size, 3, none⟩ = some (.bool p.tru) := hS'.2.1.cell 3
    have f4 : w'.cell? ⟨w2.heap.size, 4, none⟩ = some (.int .i64 p.rm) := hS'.2.1.cell 4
    have f5 : w'.cell? ⟨w2.heap.size, 5, none⟩ = some (.int .i64 p.gm) := hS'.2.1.cell 5
    have f6 : w'.cell? ⟨w2.heap.size, 6, none⟩ = some (.int .i64 p.bm) := hS'.2.1.cell 6
    have f7 : w'.cell? ⟨w2.heap.size, 7, none⟩ = some (.int .i64 p.rs) := hS'.2.1.cell 7
    have f8 : w'.cell? ⟨w2.heap.size, 8, none⟩ = some (.int .i64 p.gs) := hS'.2.1.cell 8
    have f9 : w'.cell? ⟨w2.heap.size, 9, none⟩ = some (.int .i64 p.bs) := hS'.2.1.cell 9
    go_simp
    with_reducible rfl
  case ha16 =>
    simp only [Act.put, List.setIfInBounds_toArray, List.set_cons_zero, List.set_cons_succ]
    rfl
  refine plan_v (i := 17) (N := (some 44)) (v := ?v17) (a' := ?b17) rfl rfl hS8.out (by rfl) ?hy17 ?ha17 ?_
  case hy17 =>
    intro w' hS'
    have f0 : w'.cell? ⟨w3.heap.size, 0, none⟩ = some (.int .i64 p.bits) := hS'.2.2.cell 0
    have f1 : w'.cell? ⟨w3.heap.size, 1, none⟩ = some (.int .i64 p.depth) := hS'.2.2.cell 1
    have f2 : w'.cell? ⟨w3.heap.size, 2, none⟩ = some (.bool p.big) := hS'.2.2.cell 2
    have f3 : w'.cell? ⟨w3.heap.size, 3, none⟩ = some (.bool p.tru) := hS'.2.2.cell 3
    have f4 : w'.cell? ⟨w3.heap.size, 4, none⟩ = some (.int .i64 p.rm) := hS'.2.2.cell 4
    have f5 : w'.cell? ⟨w3.heap.size, 5, none⟩ = some (.int .i64 p.gm) := hS'.2.2.cell 5
    have f6 : w'.cell? ⟨w3.heap.size, 6, none⟩ = some (.int .i64 p.bm) := hS'.2.2.cell 6
    have f7 : w'.cell? ⟨w3.heap.size, 7, none⟩ = some (.int .i64 p.rs) := hS'.2.2.cell 7
    have f8 : w'.cell? ⟨w3.heap.size, 8, none⟩ = some (.int .i64 p.gs) := hS'.2.2.cell 8
    have f9 : w'.cell? ⟨w3.heap.size, 9, none⟩ = some (.int .i64 p.bs) := hS'.2.2.cell 9
    go_simp
    with_reducible rfl
  case ha17 =>
    simp only [Act.put, List.setIfInBounds_toArray, List.set_cons_zero, List.set_cons_succ]
    rfl
  refine plan_v (i := 18) (N := (some 45)) (v := ?v18) (a' := ?b18) rfl rfl hS8.out (by rfl) ?hy18 ?ha18 ?_
  case hy18 =>
    intro w' hS'
    go_simp
    with_reducible rfl
  case ha18 =>
    simp only [Act.put, List.setIfInBounds_toArray, List.set_cons_zero, List.set_cons_succ]
    rfl
  refine plan_v (i := 19) (N := (some 46)) (v := ?v19) (a' := ?b19) rfl rfl hS8.out (by rfl) ?hy19 ?ha19 ?_
  case hy19 =>
    intro w' hS'
    go_simp
    with_reducible rfl
  case ha19 =>
    simp only [Act.put, List.setIfInBounds_toArray, List.set_cons_zero, List.set_cons_succ]
    rfl
  refine plan_v (i := 20) (N := (some 47)) (v := ?v20) (a' := ?b20) rfl rfl hS8.out (by rfl) ?hy20 ?ha20 ?_
  case hy20 =>
    intro w' hS'
    go_simp
    with_reducible rfl
  case ha20 =>
    simp only [Act.put, List.setIfInBounds_toArray, List.set_cons_zero, List.set_cons_succ]
    rfl
  refine plan_v (i := 21) (N := (some 48)) (v := ?v21) (a' := ?b21) rfl rfl hS8.out (by rfl) ?hy21 ?ha21 ?_
  case hy21 =>
    intro w' hS'
    go_simp
    with_reducible rfl
  case ha21 =>
    simp only [Act.put, List.setIfInBounds_toArray, List.set_cons_zero, List.set_cons_succ]
    rfl
  refine plan_v (i := 22) (N := (some 49)) (v := ?v22) (a' := ?b22) rfl rfl hS8.out (by rfl) ?hy22 ?ha22 ?_
  case hy22 =>
    intro w' hS'
    go_simp
    with_reducible rfl
  case ha22 =>
    simp only [Act.put, List.setIfInBounds_toArray, List.set_cons_zero, List.set_cons_succ]
    rfl
  refine plan_v (i := 23) (N := (some 50)) (v := ?v23) (a' := ?b23) rfl rfl hS8.out (by rfl) ?hy23 ?ha23 ?_
  case hy23 =>
    intro w' hS'
    go_simp
    with_reducible rfl
  case ha23 =>
    simp only [Act.put, List.setIfInBounds_toArray, List.set_cons_zero, List.set_cons_succ]
    rfl
  refine plan_v (i := 24) (N := (some 51)) (v := ?v24) (a' := ?b24) rfl rfl hS8.out (by rfl) ?hy24 ?ha24 ?_
  case hy24 =>
    intro w' hS'
    go_simp
    with_reducible rfl
  case ha24 =>
    simp only [Act.put, List.setIfInBounds_toArray, List.set_cons_zero, List.set_cons_succ]
    rfl
  refine plan_v (i := 25) (N := (some 52)) (v := ?v25) (a' := ?b25) rfl rfl hS8.out (by rfl) ?hy25 ?ha25 ?_
  case hy25 =>
    intro w' hS'
    go_simp
    with_reducible rfl
  case ha25 =>
    simp only [Act.put, List.setIfInBounds_toArray, List.set_cons_zero, List.set_cons_succ]
    rfl
  refine plan_e (i := 26) rfl (by rfl) (fun K hK => ?_)
  go_simp
  refine (standard_any _).mono ?_
  rintro e w9 ⟨rfl, hb⟩
  have hS9 : Hid (Blk w.heap.size 23 #[.int .i64 f.bits, .int .i64 f.depth, .bool f.big, .bool f.tru, .int .i64 f.rm, .int .i64 f.gm, .int .i64 f.bm, .int .i64 f.rs, .int .i64 f.gs, .int .i64 f.bs] w9 ∧ Blk w2.heap.size 23 #[.int .i64 p.bits, .int .i64 p.depth, .bool p.big, .bool p.tru, .int .i64 p.rm, .int .i64 p.gm, .int .i64 p.bm, .int .i64 p.rs, .int .i64 p.gs, .int .i64 p.bs] w9 ∧ Blk w3.heap.size 23 #[.int .i64 p.bits, .int .i64 p.depth, .bool p.big, .bool p.tru, .int .i64 p.rm, .int .i64 p.gm, .int .i64 p.bm, .int .i64 p.rs, .int .i64 p.gs, .int .i64 p.bs] w9) := hide ⟨hS8.out.1.below hb, hS8.out.2.1.below hb, hS8.out.2.2.below hb⟩
  have B9 := hide (B8.out.trans (hb.mono B8.out.size))
  clear hb
  refine hK _ _ (fun _ => hS9.out) ?_
  clear hK K
  refine plan_e (i := 27) rfl (by rfl) (fun K hK => ?_)
  go_simp
  refine (rstandard_any _).mono ?_
  rintro e w10 ⟨rfl, hb⟩
  have hS10 : Hid (Blk w.heap.size 23 #[.int .i64 f.bits, .int .i64 f.depth, .bool f.big, .bool f.tru, .int .i64 f.rm, .int .i64 f.gm, .int .i64 f.bm, .int .i64 f.rs, .int .i64 f.gs, .int .i64 f.bs] w10 ∧ Blk w2.heap.size 23 #[.int .i64 p.bits, .int .i64 p.depth, .bool p.big, .bool p.tru, .int .i64 p.rm, .int .i64 p.gm, .int .i64 p.bm, .int .i64 p.rs, .int .i64 p.gs, .int .i64 p.bs] w10 ∧ Blk w3.heap.size 23 #[.int .i64 p.bits, .int .i64 p.depth, .bool p.big, .bool p.tru, .int .i64 p.rm, .int .i64 p.gm, .int .i64 p.bm, .int .i64 p.rs, .int .i64 p.gs, .int .i64 p.bs] w10) := hide ⟨hS9.out.1.below hb, hS9.out.2.1.below hb, hS9.out.2.2.below hb⟩
  have B10 := hide (B9.out.trans (hb.mono B9.out.size))
  clear hb
  refine hK _ _ (fun _ => hS10.out) ?_
  clear hK K
  refine plan_v (i := 28) (N := (some 55)) (v := ?v28) (a' := ?b28) rfl rfl hS10.out (by rfl) ?hy28 ?ha28 ?_
  case hy28 =>
    intro w' hS'
    go_simp
    with_reducible rfl
  case ha28 =>
    simp only [Act.put, List.setIfInBounds_toArray, List.set_cons_zero, List.set_cons_succ]
    rfl
  refine plan_v (i := 29) (N := (some 56)) (v := ?v29) (a' := ?b29) rfl rfl hS10.out (by rfl) ?hy29 ?ha29 ?_
  case hy29 =>
    intro w' hS'
    go_simp
    with_reducible rfl
  case ha29 =>
    simp only [Act.put, List.setIfInBounds_toArray, List.set_cons_zero, List.set_cons_succ]
    rfl
  refine plan_v (i := 30) (N := (some 4)) (v := ?v30) (a' := ?b30) rfl rfl hS10.out (by rfl) ?hy30 ?ha30 ?_
  case hy30 =>
    intro w' hS'
    go_simp
    with_reducible rfl
  case ha30 =>
    simp only [Act.put, List.setIfInBounds_toArray, List.set_cons_zero, List.set_cons_succ]
    rfl
  refine plan_done ?_
  go_wp2_with fail
  go_ret
  exact ⟨rfl, B10.out⟩

end Go.Proofs.Ytodlpofpeoiedaa

/-
  FormatBytes: the law, and the row.
-/
namespace Go.Proofs.Ytodlpofpeoiedaa
open Go.RowKit

set_option maxHeartbeats 800000 in
set_option maxRecDepth 100000 in
/-- miradorlaw13.FormatBytes. -/
theorem law3_any (f : Fmt) (s : ByteArray) (w : World) (hr : f.rs ≤ 9223372036854775807) (hg : f.gs ≤ 9223372036854775807) (hb : f.bs ≤ 9223372036854775807) :
    Calls Try.prog 3 #[fmtV f, .string s] w fun e w' => e = .returned (.bool true) ∧ Below w.heap.size w w' := by
  by_cases hs : s.size ≤ 60
  · exact law3_walk f (parseF s) s (bytesF f) (validB f) (parseE s) w (by omega) (fun w => parse_any s w (by omega)) (fun w => rparse_any s w (by omega))
      (fun w => valid_any f w hr hg hb) (fun w => rvalid_any f w) (fun w => fbytes_any f w) (fun w => rfbytes_any f w)
  · have hs' : (60 : Int) < s.size := by omega
    have B0 := hide ((Below.refl w.heap.size w).alloc (Nat.le_refl _) (.cells #[.int .i64 f.bits, .int .i64 f.depth, .bool f.big, .bool f.tru, .int .i64 f.rm, .int .i64 f.gm, .int .i64 f.bm, .int .i64 f.rs, .int .i64 f.gs, .int .i64 f.bs] 23))
    go_enter Try.func3, Try.ntmps3
    go_upto_region 1 with fail
    generalize w.alloc (.cells #[.int .i64 f.bits, .int .i64 f.depth, .bool f.big, .bool f.tru, .int .i64 f.rm, .int .i64 f.gm, .int .i64 f.bm, .int .i64 f.rs, .int .i64 f.gs, .int .i64 f.bs] 23) = w0 at *
    go_wp2_with fail
    refine (works14_any _).mono ?_
    rintro e w1 ⟨rfl, hb1⟩
    have B1 := hide (B0.out.trans (hb1.mono B0.out.size))
    clear hb1
    go_wp2_with fail
    go_ret
    exact ⟨rfl, B1.out⟩

end Go.Proofs.Ytodlpofpeoiedaa

namespace Go.Proofs.Ytodlpofpeoiedaa
open Go.ChangeShapes Go.WideShapes Go.ChangeAt Go.RowKit
open Go.ChangeMaps (open_string shut_string)

theorem list10 {α : Type} (l : List α) (h : l.length = 10) : ∃ c0 c1 c2 c3 c4 c5 c6 c7 c8 c9, l = [c0, c1, c2, c3, c4, c5, c6, c7, c8, c9] := by
  rcases l with _ | ⟨c0, l⟩
  · simp at h
  rcases l with _ | ⟨c1, l⟩
  · simp at h
  rcases l with _ | ⟨c2, l⟩
  · simp at h
  rcases l with _ | ⟨c3, l⟩
  · simp at h
  rcases l with _ | ⟨c4, l⟩
  · simp at h
  rcases l with _ | ⟨c5, l⟩
  · simp at h
  rcases l with _ | ⟨c6, l⟩
  · simp at h
  rcases l with _ | ⟨c7, l⟩
  · simp at h
  rcases l with _ | ⟨c8, l⟩
  · simp at h
  rcases l with _ | ⟨c9, l⟩
  · simp at h
  rcases l with _ | ⟨x, l⟩
  · exact ⟨c0, c1, c2, c3, c4, c5, c6, c7, c8, c9, rfl⟩
  · simp at h

section
variable {H : Type} {enc : TypeId × Value → H} {w : World} {base : Nat} {spare : Nat → Bool} {held : Bool}

set_option maxRecDepth 100000 in
/-- A format that came in, opened. -/
theorem open_fmt {r : Reach} {b0 : Nat} {v : Value} {d : DataW H} {p : List MemPlace} (hv : Value.okWide Try.prog w r b0 23 v) (h : DataW.Trod enc Try.prog w base spare held 23 v d p) :
    ∃ f : Fmt, v = fmtV f ∧ (f.rs ≤ 9223372036854775807 ∧ f.gs ≤ 9223372036854775807 ∧ f.bs ≤ 9223372036854775807) := by
  obtain ⟨cs, rfl, hsz⟩ := okWide_struct Try.underlying23 hv
  have hc : Try.prog.cellsOf 23 = 10 := by kernel_rfl
  obtain ⟨l⟩ := cs
  obtain ⟨c0, c1, c2, c3, c4, c5, c6, c7, c8, c9, rfl⟩ := list10 l (by simpa using hsz.trans hc)
  obtain ⟨fuel, hf⟩ := h
  obtain ⟨xs, n, _, _, _, hlen, hx⟩ := DataW.trod_struct Try.underlying23 hf
  have k3 : Try.prog.cellsOf 3 = 1 := by kernel_rfl
  have k4 : Try.prog.cellsOf 4 = 1 := by kernel_rfl
  have hl : xs.length = 10 := hlen
  have h0 := hx 0 _ rfl
  rw [List.getElem?_eq_getElem (show 0 < xs.length by omega)] at h0
  obtain ⟨n0, e0, _, w0⟩ := DataW.trod_int Try.underlying3 h0
  have g0 : [c0] = [.int .i64 n0] := by simpa [Value.cells, k3] using e0
  obtain rfl := List.head_eq_of_cons_eq g0
  have h1 := hx 1 _ rfl
  rw [List.getElem?_eq_getElem (show 1 < xs.length by omega)] at h1
  obtain ⟨n1, e1, _, w1⟩ := DataW.trod_int Try.underlying3 h1
  have g1 : [c1] = [.int .i64 n1] := by simpa [Value.cells, k3] using e1
  obtain rfl := List.head_eq_of_cons_eq g1
  have h2 := hx 2 _ rfl
  rw [List.getElem?_eq_getElem (show 2 < xs.length by omega)] at h2
  obtain ⟨n2, e2, _⟩ := DataW.trod_bool Try.underlying4 h2
  have g2 : [c2] = [.bool n2] := by simpa [Value.cells, k4] using e2
  obtain rfl := List.head_eq_of_cons_eq g2
  have h3 := hx 3 _ rfl
  rw [List.getElem?_eq_getElem (show 3 < xs.length by omega)] at h3
  obtain ⟨n3, e3, _⟩ := DataW.trod_bool Try.underlying4 h3
  have g3 : [c3] = [.bool n3] := by simpa [Value.cells, k4] using e3
  obtain rfl := List.head_eq_of_cons_eq g3
  have h4 := hx 4 _ rfl
  rw [List.getElem?_eq_getElem (show 4 < xs.length by omega)] at h4
  obtain ⟨n4, e4, _, w4⟩ := DataW.trod_int Try.underlying3 h4
  have g4 : [c4] = [.int .i64 n4] := by simpa [Value.cells, k3] using e4
  obtain rfl := List.head_eq_of_cons_eq g4
  have h5 := hx 5 _ rfl
  rw [List.getElem?_eq_getElem (show 5 < xs.length by omega)] at h5
  obtain ⟨n5, e5, _, w5⟩ := DataW.trod_int Try.underlying3 h5
  have g5 : [c5] = [.int .i64 n5] := by simpa [Value.cells, k3] using e5
  obtain rfl := List.head_eq_of_cons_eq g5
  have h6 := hx 6 _ rfl
  rw [List.getElem?_eq_getElem (show 6 < xs.length by omega)] at h6
  obtain ⟨n6, e6, _, w6⟩ := DataW.trod_int Try.underlying3 h6
  have g6 : [c6] = [.int .i64 n6] := by simpa [Value.cells, k3] using e6
  obtain rfl := List.head_eq_of_cons_eq g6
  have h7 := hx 7 _ rfl
  rw [List.getElem?_eq_getElem (show 7 < xs.length by omega)] at h7
  obtain ⟨n7, e7, _, w7⟩ := DataW.trod_int Try.underlying3 h7
  have g7 : [c7] = [.int .i64 n7] := by simpa [Value.cells, k3] using e7
  obtain rfl := List.head_eq_of_cons_eq g7
  have h8 := hx 8 _ rfl
  rw [List.getElem?_eq_getElem (show 8 < xs.length by omega)] at h8
  obtain ⟨n8, e8, _, w8⟩ := DataW.trod_int Try.underlying3 h8
  have g8 : [c8] = [.int .i64 n8] := by simpa [Value.cells, k3] using e8
  obtain rfl := List.head_eq_of_cons_eq g8
  have h9 := hx 9 _ rfl
  rw [List.getElem?_eq_getElem (show 9 < xs.length by omega)] at h9
  obtain ⟨n9, e9, _, w9⟩ := DataW.trod_int Try.underlying3 h9
  have g9 : [c9] = [.int .i64 n9] := by simpa [Value.cells, k3] using e9
  obtain rfl := List.head_eq_of_cons_eq g9
  exact ⟨⟨n0, n1, n2, n3, n4, n5, n6, n7, n8, n9⟩, rfl, (bounds_i64 w7).2, (bounds_i64 w8).2, (bounds_i64 w9).2⟩
end

end Go.Proofs.Ytodlpofpeoiedaa
