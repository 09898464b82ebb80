/-
  The contract of format.Quant, and of the two standard formats by the document.
-/
import Derived.Test.YtodlpofpeoiedaaQ3
import Derived.Test.YtodlpofpeoiedaaR3
namespace Go.Proofs.Ytodlpofpeoiedaa
open Go.RowKit

set_option maxHeartbeats 1600000 in
set_option maxRecDepth 100000 in
theorem quant_any (f : Fmt) (c : Int) (w : World) (h : validB f = true) :
    Calls Try.prog 28 #[fmtV f, .int .i64 c] w fun e w' => e = .returned (.int .i64 (quantV f c)) ∧ Below w.heap.size w w' := by
  have V1 : Hid (∀ w, Calls Try.prog 39 #[fmtV f, .int .i64 c] w fun e w' => e = .returned (.int .i64 (valV f c)) ∧ Below w.heap.size w w') := fun w => value_any f c w h
  have V2 : Hid (∀ w, Calls Try.prog 40 #[fmtV f, .int .i64 (valV f c)] w fun e w' => e = .returned (.int .i64 (quantV f c)) ∧ Below w.heap.size w w') := fun w => colour_any f _ w h
  generalize valV f c = v at *
  generalize quantV f c = q at *
  have R0 := hide (Blk.new w 23 #[.int .i64 f.bits, .int .i64 f.depth, .bool f.big, .bool f.tru, .int .i64 f.rm, .int .i64 f.gm, .int .i64 f.bm, .int .i64 f.rs, .int .i64 f.gs, .int .i64 f.bs])
  have B0 := (Below.refl w.heap.size w).alloc (Nat.le_refl _) (.cells #[.int .i64 f.bits, .int .i64 f.depth, .bool f.big, .bool f.tru, .int .i64 f.rm, .int .i64 f.gm, .int .i64 f.bm, .int .i64 f.rs, .int .i64 f.gs, .int .i64 f.bs] 23)
  have HB0 := hide B0
  clear B0
  go_enter Try.func28, Try.ntmps28
  go_upto_region 1 with fail
  generalize w.alloc (.cells #[.int .i64 f.bits, .int .i64 f.depth, .bool f.big, .bool f.tru, .int .i64 f.rm, .int .i64 f.gm, .int .i64 f.bm, .int .i64 f.rs, .int .i64 f.gs, .int .i64 f.bs] 23) = w0 at *
  refine plan_region [(0, true), (1, true), (2, true), (3, false), (4, false), (5, true)] (fun w' => Blk w.heap.size 23 #[.int .i64 f.bits, .int .i64 f.depth, .bool f.big, .bool f.tru, .int .i64 f.rm, .int .i64 f.gm, .int .i64 f.bm, .int .i64 f.rs, .int .i64 f.gs, .int .i64 f.bs] w') [] rfl (by kernel_rfl) (fun _ _ d _ _ h => by cases d <;> exact h) ?_
  have R1 := hide (show Blk w.heap.size 23 #[.int .i64 f.bits, .int .i64 f.depth, .bool f.big, .bool f.tru, .int .i64 f.rm, .int .i64 f.gm, .int .i64 f.bm, .int .i64 f.rs, .int .i64 f.gs, .int .i64 f.bs] w0.drew from R0.out)
  have HB2 := hide (show Below w.heap.size w w0.drew from HB0.out.drew)
  clear R0 HB0
  generalize w0.drew = wd at *
  have hS0 := R1.out
  refine plan_v (i := 0) (N := (some 5)) (v := ?v0) (a' := ?b0) rfl rfl hS0 (by rfl) ?hy0 ?ha0 ?_
  case hy0 =>
    intro w' hS'
    have f0 : w'.cell? ⟨w.heap.size, 0, none⟩ = some (.int .i64 f.bits) := hS'.cell 0
    have f1 : w'.cell? ⟨w.heap.size, 1, none⟩ = some (.int .i64 f.depth) := hS'.cell 1
    have f2 : w'.cell? ⟨w.heap.size, 2, none⟩ = some (.bool f.big) := hS'.cell 2
    have f3 : w'.cell? ⟨w.heap.size, 3, none⟩ = some (.bool f.tru) := hS'.cell 3
    have f4 : w'.cell? ⟨w.heap.size, 4, none⟩ = some (.int .i64 f.rm) := hS'.cell 4
    have f5 : w'.cell? ⟨w.heap.size, 5, none⟩ = some (.int .i64 f.gm) := hS'.cell 5
    have f6 : w'.cell? ⟨w.heap.size, 6, none⟩ = some (.int .i64 f.bm) := hS'.cell 6
    have f7 : w'.cell? ⟨w.heap.size, 7, none⟩ = some (.int .i64 f.rs) := hS'.cell 7
    have f8 : w'.cell? ⟨w.heap.size, 8, none⟩ = some (.int .i64 f.gs) := hS'.cell 8
    have f9 : w'.cell? ⟨w.heap.size, 9, none⟩ = some (.int .i64 f.bs) := hS'.cell 9
    go_simp
    with_reducible rfl
  case ha0 =>
    simp only [Act.put, List.setIfInBounds_toArray, List.set_cons_zero, List.set_cons_succ]
    rfl
  refine plan_v (i := 1) (N := (some 6)) (v := ?v1) (a' := ?b1) rfl rfl hS0 (by rfl) ?hy1 ?ha1 ?_
  case hy1 =>
    intro w' hS'
    have f0 : w'.cell? ⟨w.heap.size, 0, none⟩ = some (.int .i64 f.bits) := hS'.cell 0
    have f1 : w'.cell? ⟨w.heap.size, 1, none⟩ = some (.int .i64 f.depth) := hS'.cell 1
    have f2 : w'.cell? ⟨w.heap.size, 2, none⟩ = some (.bool f.big) := hS'.cell 2
    have f3 : w'.cell? ⟨w.heap.size, 3, none⟩ = some (.bool f.tru) := hS'.cell 3
    have f4 : w'.cell? ⟨w.heap.size, 4, none⟩ = some (.int .i64 f.rm) := hS'.cell 4
    have f5 : w'.cell? ⟨w.heap.size, 5, none⟩ = some (.int .i64 f.gm) := hS'.cell 5
    have f6 : w'.cell? ⟨w.heap.size, 6, none⟩ = some (.int .i64 f.bm) := hS'.cell 6
    have f7 : w'.cell? ⟨w.heap.size, 7, none⟩ = some (.int .i64 f.rs) := hS'.cell 7
    have f8 : w'.cell? ⟨w.heap.size, 8, none⟩ = some (.int .i64 f.gs) := hS'.cell 8
    have f9 : w'.cell? ⟨w.heap.size, 9, none⟩ = some (.int .i64 f.bs) := hS'.cell 9
    go_simp
    with_reducible rfl
  case ha1 =>
    simp only [Act.put, List.setIfInBounds_toArray, List.set_cons_zero, List.set_cons_succ]
    rfl
  refine plan_v (i := 2) (N := (some 7)) (v := ?v2) (a' := ?b2) rfl rfl hS0 (by rfl) ?hy2 ?ha2 ?_
  case hy2 =>
    intro w' hS'
    go_simp
    with_reducible rfl
  case ha2 =>
    simp only [Act.put, List.setIfInBounds_toArray, List.set_cons_zero, List.set_cons_succ]
    rfl
  refine plan_e (i := 3) rfl (by rfl) (fun K hK => ?_)
  go_simp
  refine (V1.out _).mono ?_
  rintro e w1 ⟨rfl, hb1⟩
  have hB1 := R1.out.below hb1
  have HB1 := hide (HB2.out.trans (hb1.mono HB2.out.size))
  clear hb1
  refine hK _ _ (fun _ => hB1) ?_
  clear hK K
  refine plan_e (i := 4) rfl (by rfl) (fun K hK => ?_)
  go_simp
  refine (V2.out _).mono ?_
  rintro e w2 ⟨rfl, hb2⟩
  have HB3 := hide (HB1.out.trans (hb2.mono HB1.out.size))
  have hB2 := hB1.below hb2
  clear hb2
  refine hK _ _ (fun _ => hB2) ?_
  clear hK K
  refine plan_v (i := 5) (N := (some 4)) (v := ?v5) (a' := ?b5) rfl rfl hB2 (by rfl) ?hy5 ?ha5 ?_
  case hy5 =>
    intro w' hS'
    go_simp
    with_reducible rfl
  case ha5 =>
    simp only [Act.put, List.setIfInBounds_toArray, List.set_cons_zero, List.set_cons_succ]
    rfl
  refine plan_done ?_
  go_wp2_with fail
  go_ret
  exact ⟨rfl, HB3.out⟩

end Go.Proofs.Ytodlpofpeoiedaa
