/-
  The contracts of format.Size, Put, Get.
-/
import Derived.Test.YtodlpofpeoiedaaAB
import Derived.Deep.Cut
namespace Go.Proofs.Ytodlpofpeoiedaa
open Go.RowKit Go.Sort

set_option maxHeartbeats 1600000 in
set_option maxRecDepth 100000 in
theorem reverse_nil (w : World) : Calls Try.prog 140 #[.slice none 0 0] w fun e w' => e = .returned (.tuple #[]) ∧ w = w' := by
  go_enter Try.func140, Try.ntmps140
  go_wp2_with fail
  refine wp_loop_rounds 1 ?_
  rw [rounds_succ]
  go_wp2_with fail
  go_end0
  exact ⟨rfl, rfl⟩

set_option maxHeartbeats 1600000 in
set_option maxRecDepth 100000 in
theorem put96_zero (f : Fmt) (n : Int) (w : World) :
    Calls Try.prog 96 #[fmtV f, .int .i64 0, .int .i64 n] w fun e w' => e = .returned (.string ⟨#[]⟩) ∧ Below w.heap.size w w' := by
  have hconv : ∀ w, (convert 114 9 (.slice none 0 0)).run Try.prog w = .ok (.string ⟨#[]⟩) w := fun _ => by kernel_rfl
  have hbig : (w.alloc (.cells #[.int .i64 f.bits, .int .i64 f.depth, .bool f.big, .bool f.tru, .int .i64 f.rm, .int .i64 f.gm, .int .i64 f.bm, .int .i64 f.rs, .int .i64 f.gs, .int .i64 f.bs] 23)).cell? ⟨w.heap.size, 2, none⟩ = some (.bool f.big) := by
    rw [World.cell?_alloc_at _ _ _ _ rfl]
    rfl
  have HB := hide ((Below.refl w.heap.size w).alloc (Nat.le_refl _) (.cells #[.int .i64 f.bits, .int .i64 f.depth, .bool f.big, .bool f.tru, .int .i64 f.rm, .int .i64 f.gm, .int .i64 f.bm, .int .i64 f.rs, .int .i64 f.gs, .int .i64 f.bs] 23))
  go_enter Try.func96, Try.ntmps96
  go_wp2_with fail
  refine wp_loop_rounds 1 ?_
  rw [rounds_succ]
  generalize w.alloc (.cells #[.int .i64 f.bits, .int .i64 f.depth, .bool f.big, .bool f.tru, .int .i64 f.rm, .int .i64 f.gm, .int .i64 f.bm, .int .i64 f.rs, .int .i64 f.gs, .int .i64 f.bs] 23) = w1 at *
  cases hb : f.big with
  | false =>
    rw [hb] at hbig
    go_wp2_with fail
    go_ret
    exact ⟨rfl, HB.out⟩
  | true =>
    rw [hb] at hbig
    go_wp2_with fail
    refine (reverse_nil _).mono ?_
    rintro e w2 ⟨rfl, rfl⟩
    go_wp2_with fail
    go_ret
    exact ⟨rfl, HB.out⟩

/-- How many bytes a value has. -/
def sizeN (f : Fmt) : Nat := if validB f then (f.bits / 8).toNat else 0

theorem size_valid {f : Fmt} (h : validB f = true) : (sizeN f : Int) = f.bits / 8 ∧ (sizeN f = 1 ∨ sizeN f = 2 ∨ sizeN f = 4) := by
  obtain ⟨hb, _⟩ := valid_parts h
  unfold sizeN
  rw [if_pos h]
  omega

set_option maxHeartbeats 1600000 in
set_option maxRecDepth 100000 in
theorem size_walk (f : Fmt) (V : Bool) (r : Int) (w : World) (hr : Hid ((if V = true then f.bits / 8 else 0) = r)) (K17 : Hid (∀ w, Calls Try.prog 17 #[fmtV f] w fun e w' => e = .returned (.bool V) ∧ Below w.heap.size w w')) (hb : V = true → 0 ≤ f.bits ∧ f.bits ≤ 32) :
    Calls Try.prog 27 #[fmtV f] w fun e w' => e = .returned (.int .i64 r) ∧ Below w.heap.size w w' := by
  go_enter Try.func27, Try.ntmps27
  go_wp2_with fail
  refine (K17.out _).mono ?_
  rintro e w1 ⟨rfl, hb1⟩
  have hf0 : w1.cell? ⟨w.heap.size, 0, none⟩ = some (.int .i64 f.bits) := by
    rw [hb1.cell (p := ⟨w.heap.size, 0, none⟩) (by simp), World.cell?_alloc_at _ _ _ _ rfl]
    rfl
  have HB := hide (((Below.refl _ _).alloc (Nat.le_refl _) _).trans (hb1.mono (by simp)))
  clear hb1
  cases V with
  | false =>
    go_wp2_with fail
    go_ret
    exact ⟨by rw [← hr.out]; rfl, HB.out⟩
  | true =>
    obtain ⟨q1, q2⟩ := hb rfl
    go_wp2_with fail
    go_ret
    exact ⟨by rw [← hr.out]; rfl, HB.out⟩

theorem size_any (f : Fmt) (w : World) (hf : f.fit) : Calls Try.prog 27 #[fmtV f] w fun e w' => e = .returned (.int .i64 (sizeN f)) ∧ Below w.heap.size w w' := by
  refine size_walk f (validB f) _ w ?_ (fun w => valid_fit f w hf) fun h => ?_
  · cases h : validB f with
    | false => simp only [sizeN, h]; rfl
    | true =>
      rw [(size_valid h).1]
      rfl
  · obtain ⟨hb, _⟩ := valid_parts h
    omega

/-- A value's bytes. -/
def putV (f : Fmt) (n : Int) : ByteArray := if validB f then ordB f.big (sizeN f) n else ⟨#[]⟩

theorem put96_all (f : Fmt) (k : Nat) (n : Int) (w : World) (hk : k ≤ 8) : Calls Try.prog 96 #[fmtV f, .int .i64 k, .int .i64 n] w fun e w' => e = .returned (.string (ordB f.big k n)) ∧ Below w.heap.size w w' := by
  by_cases h : k = 0
  · subst h
    have e : ordB f.big 0 n = ⟨#[]⟩ := by unfold ordB; cases f.big <;> rfl
    rw [e]
    exact put96_zero f n w
  · exact put96_any f k n w (by omega)

theorem size_le (f : Fmt) : sizeN f ≤ 4 := by
  cases h : validB f with
  | true => have := (size_valid h).2; omega
  | false => simp [sizeN, h]

theorem putV_eq (f : Fmt) (n : Int) : putV f n = ordB f.big (sizeN f) n := by
  unfold putV
  cases h : validB f with
  | true => rfl
  | false =>
    have : sizeN f = 0 := by simp [sizeN, h]
    rw [this]
    unfold ordB
    cases f.big <;> rfl

set_option maxHeartbeats 1600000 in
set_option maxRecDepth 100000 in
theorem put36_walk (f : Fmt) (n : Int) (k : Nat) (T : ByteArray) (w : World) (K27 : Hid (∀ w, Calls Try.prog 27 #[fmtV f] w fun e w' => e = .returned (.int .i64 k) ∧ Below w.heap.size w w')) (K96 : Hid (∀ w, Calls Try.prog 96 #[fmtV f, .int .i64 k, .int .i64 n] w fun e w' => e = .returned (.string T) ∧ Below w.heap.size w w')) :
    Calls Try.prog 36 #[fmtV f, .int .i64 n] w fun e w' => e = .returned (.string T) ∧ Below w.heap.size w w' := by
  have R0 := hide (Blk.new w 23 #[.int .i64 f.bits, .int .i64 f.depth, .bool f.big, .bool f.tru, .int .i64 f.rm, .int .i64 f.gm, .int .i64 f.bm, .int .i64 f.rs, .int .i64 f.gs, .int .i64 f.bs])
  have D0 := hide ((Below.refl w.heap.size w).alloc (Nat.le_refl _) (.cells #[.int .i64 f.bits, .int .i64 f.depth, .bool f.big, .bool f.tru, .int .i64 f.rm, .int .i64 f.gm, .int .i64 f.bm, .int .i64 f.rs, .int .i64 f.gs, .int .i64 f.bs] 23))
  go_enter Try.func36, Try.ntmps36
  go_upto_region 1 with fail
  have hS0 := hide (show Blk w.heap.size 23 #[.int .i64 f.bits, .int .i64 f.depth, .bool f.big, .bool f.tru, .int .i64 f.rm, .int .i64 f.gm, .int .i64 f.bm, .int .i64 f.rs, .int .i64 f.gs, .int .i64 f.bs] (w.alloc (.cells #[.int .i64 f.bits, .int .i64 f.depth, .bool f.big, .bool f.tru, .int .i64 f.rm, .int .i64 f.gm, .int .i64 f.bm, .int .i64 f.rs, .int .i64 f.gs, .int .i64 f.bs] 23)).drew from R0.out)
  have B0 := hide (show Below w.heap.size w (w.alloc (.cells #[.int .i64 f.bits, .int .i64 f.depth, .bool f.big, .bool f.tru, .int .i64 f.rm, .int .i64 f.gm, .int .i64 f.bm, .int .i64 f.rs, .int .i64 f.gs, .int .i64 f.bs] 23)).drew from D0.out.drew)
  clear R0 D0
  refine plan_region [(0, true), (1, true), (3, true), (2, false), (4, false), (5, true)] (fun w' => Blk w.heap.size 23 #[.int .i64 f.bits, .int .i64 f.depth, .bool f.big, .bool f.tru, .int .i64 f.rm, .int .i64 f.gm, .int .i64 f.bm, .int .i64 f.rs, .int .i64 f.gs, .int .i64 f.bs] w') [] rfl (by kernel_rfl) (fun _ _ d _ _ h => by cases d <;> exact h) ?_
  generalize (w.alloc (.cells #[.int .i64 f.bits, .int .i64 f.depth, .bool f.big, .bool f.tru, .int .i64 f.rm, .int .i64 f.gm, .int .i64 f.bm, .int .i64 f.rs, .int .i64 f.gs, .int .i64 f.bs] 23)).drew = w0 at *
  refine plan_v (i := 0) (N := (some 5)) (v := ?v0) (a' := ?b0) rfl rfl hS0.out (by rfl) ?hy0 ?ha0 ?_
  case hy0 =>
    intro w' hS'
    have f0 : w'.cell? ⟨w.heap.size, 0, none⟩ = some (.int .i64 f.bits) := hS'.cell 0
    have f1 : w'.cell? ⟨w.heap.size, 1, none⟩ = some (.int .i64 f.depth) := hS'.cell 1
    have f2 : w'.cell? ⟨w.heap.size, 2, none⟩ = some (.bool f.big) := hS'.cell 2
    have f3 : w'.cell? ⟨w.heap.size, 3, none⟩ = some (.bool f.tru) := hS'.cell 3
    have f4 : w'.cell? ⟨w.heap.size, 4, none⟩ = some (.int .i64 f.rm) := hS'.cell 4
    have f5 : w'.cell? ⟨w.heap.size, 5, none⟩ = some (.int .i64 f.gm) := hS'.cell 5
    have f6 : w'.cell? ⟨w.heap.size, 6, none⟩ = some (.int .i64 f.bm) := hS'.cell 6
    have f7 : w'.cell? ⟨w.heap.size, 7, none⟩ = some (.int .i64 f.rs) := hS'.cell 7
    have f8 : w'.cell? ⟨w.heap.size, 8, none⟩ = some (.int .i64 f.gs) := hS'.cell 8
    have f9 : w'.cell? ⟨w.heap.size, 9, none⟩ = some (.int .i64 f.bs) := hS'.cell 9
    go_simp
    with_reducible rfl
  case ha0 =>
    simp only [Act.put, List.setIfInBounds_toArray, List.set_cons_zero, List.set_cons_succ]
    rfl
  refine plan_v (i := 1) (N := (some 6)) (v := ?v1) (a' := ?b1) rfl rfl hS0.out (by rfl) ?hy1 ?ha1 ?_
  case hy1 =>
    intro w' hS'
    have f0 : w'.cell? ⟨w.heap.size, 0, none⟩ = some (.int .i64 f.bits) := hS'.cell 0
    have f1 : w'.cell? ⟨w.heap.size, 1, none⟩ = some (.int .i64 f.depth) := hS'.cell 1
    have f2 : w'.cell? ⟨w.heap.size, 2, none⟩ = some (.bool f.big) := hS'.cell 2
    have f3 : w'.cell? ⟨w.heap.size, 3, none⟩ = some (.bool f.tru) := hS'.cell 3
    have f4 : w'.cell? ⟨w.heap.size, 4, none⟩ = some (.int .i64 f.rm) := hS'.cell 4
    have f5 : w'.cell? ⟨w.heap.size, 5, none⟩ = some (.int .i64 f.gm) := hS'.cell 5
    have f6 : w'.cell? ⟨w.heap.size, 6, none⟩ = some (.int .i64 f.bm) := hS'.cell 6
    have f7 : w'.cell? ⟨w.heap.size, 7, none⟩ = some (.int .i64 f.rs) := hS'.cell 7
    have f8 : w'.cell? ⟨w.heap.size, 8, none⟩ = some (.int .i64 f.gs) := hS'.cell 8
    have f9 : w'.cell? ⟨w.heap.size, 9, none⟩ = some (.int .i64 f.bs) := hS'.cell 9
    go_simp
    with_reducible rfl
  case ha1 =>
    simp only [Act.put, List.setIfInBounds_toArray, List.set_cons_zero, List.set_cons_succ]
    rfl
  refine plan_v (i := 3) (N := (some 8)) (v := ?v3) (a' := ?b3) rfl rfl hS0.out (by rfl) ?hy3 ?ha3 ?_
  case hy3 =>
    intro w' hS'
    go_simp
    with_reducible rfl
  case ha3 =>
    simp only [Act.put, List.setIfInBounds_toArray, List.set_cons_zero, List.set_cons_succ]
    rfl
  refine plan_e (i := 2) rfl (by rfl) (fun K hK => ?_)
  go_simp
  refine (K27.out _).mono ?_
  rintro e w1 ⟨rfl, hb⟩
  have hS1 := hide (hS0.out.below hb)
  have B1 := hide (B0.out.trans (hb.mono B0.out.size))
  clear hb
  refine hK _ _ (fun _ => hS1.out) ?_
  clear hK K
  refine plan_e (i := 4) rfl (by rfl) (fun K hK => ?_)
  go_simp
  refine (K96.out _).mono ?_
  rintro e w2 ⟨rfl, hb⟩
  have hS2 := hide (hS1.out.below hb)
  have B2 := hide (B1.out.trans (hb.mono B1.out.size))
  clear hb
  refine hK _ _ (fun _ => hS2.out) ?_
  clear hK K
  refine plan_v (i := 5) (N := (some 4)) (v := ?v5) (a' := ?b5) rfl rfl hS2.out (by rfl) ?hy5 ?ha5 ?_
  case hy5 =>
    intro w' hS'
    go_simp
    with_reducible rfl
  case ha5 =>
    simp only [Act.put, List.setIfInBounds_toArray, List.set_cons_zero, List.set_cons_succ]
    rfl
  refine plan_done ?_
  go_wp2_with fail
  go_ret
  exact ⟨rfl, B2.out⟩

theorem put36_any (f : Fmt) (n : Int) (w : World) (hf : f.fit) : Calls Try.prog 36 #[fmtV f, .int .i64 n] w fun e w' => e = .returned (.string (putV f n)) ∧ Below w.heap.size w w' := by
  rw [putV_eq]
  exact put36_walk f n (sizeN f) _ w (fun w => size_any f w hf) (fun w => put96_all f (sizeN f) n w (Nat.le_trans (size_le f) (by decide)))

set_option maxHeartbeats 1600000 in
set_option maxRecDepth 100000 in
theorem get41_walk (f : Fmt) (s : ByteArray) (k : Nat) (x y : Int) (w : World) (K27 : Hid (∀ w, Calls Try.prog 27 #[fmtV f] w fun e w' => e = .returned (.int .i64 k) ∧ Below w.heap.size w w')) (K97 : Hid (∀ w, Calls Try.prog 97 #[fmtV f, .int .i64 k, .string s] w fun e w' => e = .returned (.tuple #[.int .i64 x, .int .i64 y]) ∧ Below w.heap.size w w')) :
    Calls Try.prog 41 #[fmtV f, .string s] w fun e w' => e = .returned (.tuple #[.int .i64 x, .int .i64 y]) ∧ Below w.heap.size w w' := by
  have R0 := hide (Blk.new w 23 #[.int .i64 f.bits, .int .i64 f.depth, .bool f.big, .bool f.tru, .int .i64 f.rm, .int .i64 f.gm, .int .i64 f.bm, .int .i64 f.rs, .int .i64 f.gs, .int .i64 f.bs])
  have D0 := hide ((Below.refl w.heap.size w).alloc (Nat.le_refl _) (.cells #[.int .i64 f.bits, .int .i64 f.depth, .bool f.big, .bool f.tru, .int .i64 f.rm, .int .i64 f.gm, .int .i64 f.bm, .int .i64 f.rs, .int .i64 f.gs, .int .i64 f.bs] 23))
  go_enter Try.func41, Try.ntmps41
  go_upto_region 1 with fail
  have hS0 := hide (show Blk w.heap.size 23 #[.int .i64 f.bits, .int .i64 f.depth, .bool f.big, .bool f.tru, .int .i64 f.rm, .int .i64 f.gm, .int .i64 f.bm, .int .i64 f.rs, .int .i64 f.gs, .int .i64 f.bs] (w.alloc (.cells #[.int .i64 f.bits, .int .i64 f.depth, .bool f.big, .bool f.tru, .int .i64 f.rm, .int .i64 f.gm, .int .i64 f.bm, .int .i64 f.rs, .int .i64 f.gs, .int .i64 f.bs] 23)).drew from R0.out)
  have B0 := hide (show Below w.heap.size w (w.alloc (.cells #[.int .i64 f.bits, .int .i64 f.depth, .bool f.big, .bool f.tru, .int .i64 f.rm, .int .i64 f.gm, .int .i64 f.bm, .int .i64 f.rs, .int .i64 f.gs, .int .i64 f.bs] 23)).drew from D0.out.drew)
  clear R0 D0
  refine plan_region [(0, true), (1, true), (3, true), (2, false), (4, false), (5, true), (6, true), (7, true), (8, true)] (fun w' => Blk w.heap.size 23 #[.int .i64 f.bits, .int .i64 f.depth, .bool f.big, .bool f.tru, .int .i64 f.rm, .int .i64 f.gm, .int .i64 f.bm, .int .i64 f.rs, .int .i64 f.gs, .int .i64 f.bs] w') [] rfl (by kernel_rfl) (fun _ _ d _ _ h => by cases d <;> exact h) ?_
  generalize (w.alloc (.cells #[.int .i64 f.bits, .int .i64 f.depth, .bool f.big, .bool f.tru, .int .i64 f.rm, .int .i64 f.gm, .int .i64 f.bm, .int .i64 f.rs, .int .i64 f.gs, .int .i64 f.bs] 23)).drew = w0 at *
  refine plan_v (i := 0) (N := (some 6)) (v := ?v0) (a' := ?b0) rfl rfl hS0.out (by rfl) ?hy0 ?ha0 ?_
  case hy0 =>
    intro w' hS'
    have f0 : w'.cell? ⟨w.heap.size, 0, none⟩ = some (.int .i64 f.bits) := hS'.cell 0
    have f1 : w'.cell? ⟨w.heap.size, 1, none⟩ = some (.int .i64 f.depth) := hS'.cell 1
    have f2 : w'.cell? ⟨w.heap.size, 2, none⟩ = some (.bool f.big) := hS'.cell 2
    have f3 : w'.cell? ⟨w.heap.size, 3, none⟩ = some (.bool f.tru) := hS'.cell 3
    have f4 : w'.cell? ⟨w.heap.size, 4, none⟩ = some (.int .i64 f.rm) := hS'.cell 4
    have f5 : w'.cell? ⟨w.heap.size, 5, none⟩ = some (.int .i64 f.gm) := hS'.cell 5
    have f6 : w'.cell? ⟨w.heap.size, 6, none⟩ = some (.int .i64 f.bm) := hS'.cell 6
    have f7 : w'.cell? ⟨w.heap.size, 7, none⟩ = some (.int .i64 f.rs) := hS'.cell 7
    have f8 : w'.cell? ⟨w.heap.size, 8, none⟩ = some (.int .i64 f.gs) := hS'.cell 8
    have f9 : w'.cell? ⟨w.heap.size, 9, none⟩ = some (.int .i64 f.bs) := hS'.cell 9
    go_simp
    with_reducible rfl
  case ha0 =>
    simp only [Act.put, List.setIfInBounds_toArray, List.set_cons_zero, List.set_cons_succ]
    rfl
  refine plan_v (i := 1) (N := (some 7)) (v := ?v1) (a' := ?b1) rfl rfl hS0.out (by rfl) ?hy1 ?ha1 ?_
  case hy1 =>
    intro w' hS'
    have f0 : w'.cell? ⟨w.heap.size, 0, none⟩ = some (.int .i64 f.bits) := hS'.cell 0
    have f1 : w'.cell? ⟨w.heap.size, 1, none⟩ = some (.int .i64 f.depth) := hS'.cell 1
    have f2 : w'.cell? ⟨w.heap.size, 2, none⟩ = some (.bool f.big) := hS'.cell 2
    have f3 : w'.cell? ⟨w.heap.size, 3, none⟩ = some (.bool f.tru) := hS'.cell 3
    have f4 : w'.cell? ⟨w.heap.size, 4, none⟩ = some (.int .i64 f.rm) := hS'.cell 4
    have f5 : w'.cell? ⟨w.heap.size, 5, none⟩ = some (.int .i64 f.gm) := hS'.cell 5
    have f6 : w'.cell? ⟨w.heap.size, 6, none⟩ = some (.int .i64 f.bm) := hS'.cell 6
    have f7 : w'.cell? ⟨w.heap.size, 7, none⟩ = some (.int .i64 f.rs) := hS'.cell 7
    have f8 : w'.cell? ⟨w.heap.size, 8, none⟩ = some (.int .i64 f.gs) := hS'.cell 8
    have f9 : w'.cell? ⟨w.heap.size, 9, none⟩ = some (.int .i64 f.bs) := hS'.cell 9
    go_simp
    with_reducible rfl
  case ha1 =>
    simp only [Act.put, List.setIfInBounds_toArray, List.set_cons_zero, List.set_cons_succ]
    rfl
  refine plan_v (i := 3) (N := (some 9)) (v := ?v3) (a' := ?b3) rfl rfl hS0.out (by rfl) ?hy3 ?ha3 ?_
  case hy3 =>
    intro w' hS'
    go_simp
    with_reducible rfl
  case ha3 =>
    simp only [Act.put, List.setIfInBounds_toArray, List.set_cons_zero, List.set_cons_succ]
    rfl
  refine plan_e (i := 2) rfl (by rfl) (fun K hK => ?_)
  go_simp
  refine (K27.out _).mono ?_
  rintro e w1 ⟨rfl, hb⟩
  have hS1 := hide (hS0.out.below hb)
  have B1 := hide (B0.out.trans (hb.mono B0.out.size))
  clear hb
  refine hK _ _ (fun _ => hS1.out) ?_
  clear hK K
  refine plan_e (i := 4) rfl (by rfl) (fun K hK => ?_)
  go_simp
  refine (K97.out _).mono ?_
  rintro e w2 ⟨rfl, hb⟩
  have hS2 := hide (hS1.out.below hb)
  have B2 := hide (B1.out.trans (hb.mono B1.out.size))
  clear hb
  refine hK _ _ (fun _ => hS2.out) ?_
  clear hK K
  refine plan_v (i := 5) (N := (some 11)) (v := ?v5) (a' := ?b5) rfl rfl hS2.out (by rfl) ?hy5 ?ha5 ?_
  case hy5 =>
    intro w' hS'
    go_simp
    with_reducible rfl
  case ha5 =>
    simp only [Act.put, List.setIfInBounds_toArray, List.set_cons_zero, List.set_cons_succ]
    rfl
  refine plan_v (i := 6) (N := (some 12)) (v := ?v6) (a' := ?b6) rfl rfl hS2.out (by rfl) ?hy6 ?ha6 ?_
  case hy6 =>
    intro w' hS'
    go_simp
    with_reducible rfl
  case ha6 =>
    simp only [Act.put, List.setIfInBounds_toArray, List.set_cons_zero, List.set_cons_succ]
    rfl
  refine plan_v (i := 7) (N := (some 4)) (v := ?v7) (a' := ?b7) rfl rfl hS2.out (by rfl) ?hy7 ?ha7 ?_
  case hy7 =>
    intro w' hS'
    go_simp
    with_reducible rfl
  case ha7 =>
    simp only [Act.put, List.setIfInBounds_toArray, List.set_cons_zero, List.set_cons_succ]
    rfl
  refine plan_v (i := 8) (N := (some 5)) (v := ?v8) (a' := ?b8) rfl rfl hS2.out (by rfl) ?hy8 ?ha8 ?_
  case hy8 =>
    intro w' hS'
    go_simp
    with_reducible rfl
  case ha8 =>
    simp only [Act.put, List.setIfInBounds_toArray, List.set_cons_zero, List.set_cons_succ]
    rfl
  refine plan_done ?_
  go_wp2_with fail
  go_ret2
  exact ⟨rfl, B2.out⟩

theorem get41_any (f : Fmt) (s : ByteArray) (w : World) (hf : f.fit) : Calls Try.prog 41 #[fmtV f, .string s] w fun e w' => e = .returned (.tuple #[.int .i64 (getV f (sizeN f) s), .int .i64 (getE f (sizeN f) s)]) ∧ Below w.heap.size w w' :=
  get41_walk f s (sizeN f) _ _ w (fun w => size_any f w hf) (fun w => get97_any f (sizeN f) s w (size_le f) hf)

end Go.Proofs.Ytodlpofpeoiedaa
