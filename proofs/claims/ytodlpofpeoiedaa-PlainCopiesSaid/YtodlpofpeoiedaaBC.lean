/-
  The document's CopyOf; which rectangle may be: plain.Fits and the document's.
-/
import Derived.Test.YtodlpofpeoiedaaBB
import Derived.Test.YtodlpofpeoiedaaQ3
namespace Go.Proofs.Ytodlpofpeoiedaa
open Go.RowKit Go.Sort

set_option maxHeartbeats 1600000 in
set_option maxRecDepth 100000 in
theorem rcopyOf_yes (s : ByteArray) (x y : Int) (w : World) (hs : 4 ≤ s.size)
    (C0 : Hid (∀ w, Calls Try.prog 76 #[.string (s.extract 0 2)] w fun e w' => e = .returned (.int .i64 x) ∧ w' = w))
    (C2 : Hid (∀ w, Calls Try.prog 76 #[.string (s.extract 2 4)] w fun e w' => e = .returned (.int .i64 y) ∧ w' = w)) :
    Calls Try.prog 47 #[.string s] w fun en w' => en = .returned (.tuple #[.int .i64 x, .int .i64 y, .int .i64 4, .int .i64 0]) ∧ Below w.heap.size w w' := by
  have h4 : (4 : Int) ≤ s.size := by omega
  have h2 : (2 : Int) ≤ s.size := by omega
  go_enter Try.func47, Try.ntmps47
  go_wp2_with fail
  refine plan_region [(0, true), (1, true), (2, true), (3, true), (4, true), (5, true), (6, true), (7, true), (8, true), (9, true)] (fun _ => True) [] rfl (by kernel_rfl) (fun _ _ d _ _ h => by cases d <;> exact h) ?_
  refine plan_v (i := 0) (N := (some 9)) (v := ?v3x0) (a' := ?b3x0) rfl rfl trivial (by rfl) ?hy3x0 ?ha3x0 ?_
  case hy3x0 =>
    intro w' hS'
    go_simp
    with_reducible rfl
  case ha3x0 =>
    simp only [Act.put, List.setIfInBounds_toArray, List.set_cons_zero, List.set_cons_succ]
    rfl
  refine plan_v (i := 1) (N := (some 10)) (v := ?v3x1) (a' := ?b3x1) rfl rfl trivial (by rfl) ?hy3x1 ?ha3x1 ?_
  case hy3x1 =>
    intro w' hS'
    go_simp
    with_reducible rfl
  case ha3x1 =>
    simp only [Act.put, List.setIfInBounds_toArray, List.set_cons_zero, List.set_cons_succ]
    rfl
  refine plan_c (i := 2) (N := (some 11)) (v := .int .i64 x) (f := 76) (args := #[.string (s.extract 0 2)]) (a' := ?b3x2) rfl rfl trivial (by rfl) ?hy3x2 (fun w' hS' => C0.out w') ?ha3x2 ?_
  case hy3x2 =>
    intro w' hS'
    go_simp
  case ha3x2 =>
    simp only [Act.put, List.setIfInBounds_toArray, List.set_cons_zero, List.set_cons_succ]
    rfl
  refine plan_v (i := 3) (N := (some 12)) (v := ?v3x3) (a' := ?b3x3) rfl rfl trivial (by rfl) ?hy3x3 ?ha3x3 ?_
  case hy3x3 =>
    intro w' hS'
    go_simp
    with_reducible rfl
  case ha3x3 =>
    simp only [Act.put, List.setIfInBounds_toArray, List.set_cons_zero, List.set_cons_succ]
    rfl
  refine plan_v (i := 4) (N := (some 13)) (v := ?v3x4) (a' := ?b3x4) rfl rfl trivial (by rfl) ?hy3x4 ?ha3x4 ?_
  case hy3x4 =>
    intro w' hS'
    go_simp
    with_reducible rfl
  case ha3x4 =>
    simp only [Act.put, List.setIfInBounds_toArray, List.set_cons_zero, List.set_cons_succ]
    rfl
  refine plan_c (i := 5) (N := (some 14)) (v := .int .i64 y) (f := 76) (args := #[.string (s.extract 2 4)]) (a' := ?b3x5) rfl rfl trivial (by rfl) ?hy3x5 (fun w' hS' => C2.out w') ?ha3x5 ?_
  case hy3x5 =>
    intro w' hS'
    go_simp
  case ha3x5 =>
    simp only [Act.put, List.setIfInBounds_toArray, List.set_cons_zero, List.set_cons_succ]
    rfl
  refine plan_v (i := 6) (N := (some 2)) (v := ?v3x6) (a' := ?b3x6) rfl rfl trivial (by rfl) ?hy3x6 ?ha3x6 ?_
  case hy3x6 =>
    intro w' hS'
    go_simp
    with_reducible rfl
  case ha3x6 =>
    simp only [Act.put, List.setIfInBounds_toArray, List.set_cons_zero, List.set_cons_succ]
    rfl
  refine plan_v (i := 7) (N := (some 3)) (v := ?v3x7) (a' := ?b3x7) rfl rfl trivial (by rfl) ?hy3x7 ?ha3x7 ?_
  case hy3x7 =>
    intro w' hS'
    go_simp
    with_reducible rfl
  case ha3x7 =>
    simp only [Act.put, List.setIfInBounds_toArray, List.set_cons_zero, List.set_cons_succ]
    rfl
  refine plan_v (i := 8) (N := (some 4)) (v := ?v3x8) (a' := ?b3x8) rfl rfl trivial (by rfl) ?hy3x8 ?ha3x8 ?_
  case hy3x8 =>
    intro w' hS'
    go_simp
    with_reducible rfl
  case ha3x8 =>
    simp only [Act.put, List.setIfInBounds_toArray, List.set_cons_zero, List.set_cons_succ]
    rfl
  refine plan_v (i := 9) (N := (some 5)) (v := ?v3x9) (a' := ?b3x9) rfl rfl trivial (by rfl) ?hy3x9 ?ha3x9 ?_
  case hy3x9 =>
    intro w' hS'
    go_simp
    with_reducible rfl
  case ha3x9 =>
    simp only [Act.put, List.setIfInBounds_toArray, List.set_cons_zero, List.set_cons_succ]
    rfl
  refine plan_done ?_
  go_wp2_with fail
  (try simp only [Exit.inBlock, Exit.then])
  refine bodyPost_ret (results_tmp4 rfl _ _ _) rfl ?_
  exact ⟨rfl, (Below.refl _ _).drew⟩

set_option maxHeartbeats 1600000 in
set_option maxRecDepth 100000 in
theorem rcopyOf_no (s : ByteArray) (w : World) (hs : s.size < 4) :
    Calls Try.prog 47 #[.string s] w fun en w' => en = .returned (.tuple #[.int .i64 0, .int .i64 0, .int .i64 0, .int .i64 2]) ∧ Below w.heap.size w w' := by
  have h4 : (s.size : Int) < 4 := by omega
  go_enter Try.func47, Try.ntmps47
  go_wp2_with fail
  (try simp only [Exit.inBlock, Exit.then])
  refine bodyPost_ret (results_tmp4 rfl _ _ _) rfl ?_
  exact ⟨rfl, Below.refl _ _⟩

theorem rcopyOf_any (s : ByteArray) (w : World) :
    Calls Try.prog 47 #[.string s] w fun en w' => en = .returned (.tuple #[.int .i64 (ofX s), .int .i64 (ofY s), .int .i64 (ofN s), .int .i64 (ofE s)]) ∧ Below w.heap.size w w' := by
  unfold ofX ofY ofN ofE
  by_cases h : s.size < 4
  · rw [if_pos h, if_pos h, if_pos h, if_pos h]
    exact rcopyOf_no s w h
  · rw [if_neg h, if_neg h, if_neg h, if_neg h]
    exact rcopyOf_yes s _ _ w (by omega) (fun w => rint_eq _ _ w (hide (ext2_size s 0)) (hide rfl)) (fun w => rint_eq _ _ w (hide (ext2_size s 2)) (hide rfl))

end Go.Proofs.Ytodlpofpeoiedaa
