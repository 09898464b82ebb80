/-
  The contracts of format.Compact, CPut, CGet.
-/
import Derived.Test.YtodlpofpeoiedaaAC
namespace Go.Proofs.Ytodlpofpeoiedaa
open Go.RowKit Go.Sort

set_option maxHeartbeats 1600000 in
set_option maxRecDepth 100000 in
theorem compact_walk (a b : Int) (e t : Bool) (rm gm bm rs gs bs M1 M2 M3 Y Z c : Int) (k : Nat) (S T : Int) (w : World)
    (K17 : Hid (∀ w, Calls Try.prog 17 #[.agg #[.int .i64 a, .int .i64 b, .bool e, .bool t, .int .i64 rm, .int .i64 gm, .int .i64 bm, .int .i64 rs, .int .i64 gs, .int .i64 bs]] w fun e w' => e = .returned (.bool true) ∧ Below w.heap.size w w'))
    (K27 : Hid (∀ w, Calls Try.prog 27 #[.agg #[.int .i64 a, .int .i64 b, .bool e, .bool t, .int .i64 rm, .int .i64 gm, .int .i64 bm, .int .i64 rs, .int .i64 gs, .int .i64 bs]] w fun e w' => e = .returned (.int .i64 k) ∧ Below w.heap.size w w'))
    (K1 : Hid (∀ w, Calls Try.prog 79 #[.agg #[.int .i64 rm, .int .i64 rs]] w fun e w' => e = .returned (.int .i64 M1) ∧ Below w.heap.size w w'))
    (K2 : Hid (∀ w, Calls Try.prog 79 #[.agg #[.int .i64 gm, .int .i64 gs]] w fun e w' => e = .returned (.int .i64 M2) ∧ Below w.heap.size w w'))
    (K3 : Hid (∀ w, Calls Try.prog 79 #[.agg #[.int .i64 bm, .int .i64 bs]] w fun e w' => e = .returned (.int .i64 M3) ∧ Below w.heap.size w w'))
    (o1 : bits .or .i64 0 M1 = M1) (o2 : bits .or .i64 M1 M2 = Y) (o3 : bits .or .i64 Y M3 = Z) (oc : bits .and .i64 Z 255 = c)
    (hS : Hid (S = if a < 32 ∨ 24 < b then (k : Int) else if Z < 16777216 then 3 else if c = 0 then 3 else k)) (hT : Hid (T = if a < 32 ∨ 24 < b then 0 else if Z < 16777216 then 0 else if c = 0 then 8 else 0)) :
    Calls Try.prog 43 #[.agg #[.int .i64 a, .int .i64 b, .bool e, .bool t, .int .i64 rm, .int .i64 gm, .int .i64 bm, .int .i64 rs, .int .i64 gs, .int .i64 bs]] w fun e w' => e = .returned (.tuple #[.int .i64 S, .int .i64 T]) ∧ Below w.heap.size w w' := by
  have i0 := idx0 rm rs gm gs bm bs
  have i1 := idx1 rm rs gm gs bm bs
  have i2 := idx2 rm rs gm gs bm bs
  have F0 := hide (Blk.new w 23 #[.int .i64 a, .int .i64 b, .bool e, .bool t, .int .i64 rm, .int .i64 gm, .int .i64 bm, .int .i64 rs, .int .i64 gs, .int .i64 bs])
  have B0 := hide ((Below.refl w.heap.size w).alloc (Nat.le_refl _) (.cells #[.int .i64 a, .int .i64 b, .bool e, .bool t, .int .i64 rm, .int .i64 gm, .int .i64 bm, .int .i64 rs, .int .i64 gs, .int .i64 bs] 23))
  have hgs := hide (lt_al (w := w) (o := .cells #[.int .i64 a, .int .i64 b, .bool e, .bool t, .int .i64 rm, .int .i64 gm, .int .i64 bm, .int .i64 rs, .int .i64 gs, .int .i64 bs] 23) (Below.refl _ _))
  go_enter Try.func43, Try.ntmps43
  go_upto_region 1 with fail
  generalize w.alloc (.cells #[.int .i64 a, .int .i64 b, .bool e, .bool t, .int .i64 rm, .int .i64 gm, .int .i64 bm, .int .i64 rs, .int .i64 gs, .int .i64 bs] 23) = w0 at *
  have f0 : w0.cell? ⟨w.heap.size, 0, none⟩ = some (.int .i64 a) := F0.out.cell 0
  have f1 : w0.cell? ⟨w.heap.size, 1, none⟩ = some (.int .i64 b) := F0.out.cell 1
  have f2 : w0.cell? ⟨w.heap.size, 2, none⟩ = some (.bool e) := F0.out.cell 2
  have f3 : w0.cell? ⟨w.heap.size, 3, none⟩ = some (.bool t) := F0.out.cell 3
  have f4 : w0.cell? ⟨w.heap.size, 4, none⟩ = some (.int .i64 rm) := F0.out.cell 4
  have f5 : w0.cell? ⟨w.heap.size, 5, none⟩ = some (.int .i64 gm) := F0.out.cell 5
  have f6 : w0.cell? ⟨w.heap.size, 6, none⟩ = some (.int .i64 bm) := F0.out.cell 6
  have f7 : w0.cell? ⟨w.heap.size, 7, none⟩ = some (.int .i64 rs) := F0.out.cell 7
  have f8 : w0.cell? ⟨w.heap.size, 8, none⟩ = some (.int .i64 gs) := F0.out.cell 8
  have f9 : w0.cell? ⟨w.heap.size, 9, none⟩ = some (.int .i64 bs) := F0.out.cell 9
  go_wp2_with fail
  refine (K17.out _).mono ?_
  rintro e w1 ⟨rfl, hb1⟩
  have F1 := hide (F0.out.below hb1)
  have B1 := hide (B0.out.trans (hb1.mono B0.out.size))
  clear hb1
  clear f0
  have f0 : w1.cell? ⟨w.heap.size, 0, none⟩ = some (.int .i64 a) := F1.out.cell 0
  clear f1
  have f1 : w1.cell? ⟨w.heap.size, 1, none⟩ = some (.int .i64 b) := F1.out.cell 1
  clear f2
  have f2 : w1.cell? ⟨w.heap.size, 2, none⟩ = some (.bool e) := F1.out.cell 2
  clear f3
  have f3 : w1.cell? ⟨w.heap.size, 3, none⟩ = some (.bool t) := F1.out.cell 3
  clear f4
  have f4 : w1.cell? ⟨w.heap.size, 4, none⟩ = some (.int .i64 rm) := F1.out.cell 4
  clear f5
  have f5 : w1.cell? ⟨w.heap.size, 5, none⟩ = some (.int .i64 gm) := F1.out.cell 5
  clear f6
  have f6 : w1.cell? ⟨w.heap.size, 6, none⟩ = some (.int .i64 bm) := F1.out.cell 6
  clear f7
  have f7 : w1.cell? ⟨w.heap.size, 7, none⟩ = some (.int .i64 rs) := F1.out.cell 7
  clear f8
  have f8 : w1.cell? ⟨w.heap.size, 8, none⟩ = some (.int .i64 gs) := F1.out.cell 8
  clear f9
  have f9 : w1.cell? ⟨w.heap.size, 9, none⟩ = some (.int .i64 bs) := F1.out.cell 9
  go_wp2_with fail
  refine (parts_any _ _ _ _ _ _ _ _ _ _ _).mono ?_
  rintro e w2 ⟨rfl, hb2⟩
  have F2 := hide (F1.out.below hb2)
  have B2 := hide (B1.out.trans (hb2.mono B1.out.size))
  clear hb2
  go_wp2_with fail
  refine wp_loop_rounds 4 ?_
  rw [rounds_succ]
  go_wp2_with fail
  refine (K1.out _).mono ?_
  rintro e w3 ⟨rfl, hb3⟩
  have F3 := hide ((F2.out.alloc _).below hb3)
  have B3 := hide ((B2.out.alloc B2.out.size _).trans (hb3.mono (by rw [World.size_alloc]; exact Nat.le_succ_of_le B2.out.size)))
  clear hb3
  go_wp2_with fail
  rw [rounds_succ]
  go_wp2_with fail
  refine (K2.out _).mono ?_
  rintro e w4 ⟨rfl, hb4⟩
  have F4 := hide ((F3.out.alloc _).below hb4)
  have B4 := hide ((B3.out.alloc B3.out.size _).trans (hb4.mono (by rw [World.size_alloc]; exact Nat.le_succ_of_le B3.out.size)))
  clear hb4
  go_wp2_with fail
  rw [rounds_succ]
  go_wp2_with fail
  refine (K3.out _).mono ?_
  rintro e w5 ⟨rfl, hb5⟩
  have F5 := hide ((F4.out.alloc _).below hb5)
  have B5 := hide ((B4.out.alloc B4.out.size _).trans (hb5.mono (by rw [World.size_alloc]; exact Nat.le_succ_of_le B4.out.size)))
  clear hb5
  clear f0
  have f0 : w5.cell? ⟨w.heap.size, 0, none⟩ = some (.int .i64 a) := F5.out.cell 0
  clear f1
  have f1 : w5.cell? ⟨w.heap.size, 1, none⟩ = some (.int .i64 b) := F5.out.cell 1
  clear f2
  have f2 : w5.cell? ⟨w.heap.size, 2, none⟩ = some (.bool e) := F5.out.cell 2
  clear f3
  have f3 : w5.cell? ⟨w.heap.size, 3, none⟩ = some (.bool t) := F5.out.cell 3
  clear f4
  have f4 : w5.cell? ⟨w.heap.size, 4, none⟩ = some (.int .i64 rm) := F5.out.cell 4
  clear f5
  have f5 : w5.cell? ⟨w.heap.size, 5, none⟩ = some (.int .i64 gm) := F5.out.cell 5
  clear f6
  have f6 : w5.cell? ⟨w.heap.size, 6, none⟩ = some (.int .i64 bm) := F5.out.cell 6
  clear f7
  have f7 : w5.cell? ⟨w.heap.size, 7, none⟩ = some (.int .i64 rs) := F5.out.cell 7
  clear f8
  have f8 : w5.cell? ⟨w.heap.size, 8, none⟩ = some (.int .i64 gs) := F5.out.cell 8
  clear f9
  have f9 : w5.cell? ⟨w.heap.size, 9, none⟩ = some (.int .i64 bs) := F5.out.cell 9
  go_wp2_with fail
  rw [rounds_succ]
  by_cases h1 : a < 32 ∨ 24 < b
  · have e1 := hS.out
    have e2 := hT.out
    rw [if_pos h1] at e1 e2
    subst e1
    subst e2
    by_cases h2 : a < 32
    · go_wp2_with fail
      refine (K27.out _).mono ?_
      rintro e w6 ⟨rfl, hb6⟩
      have F6 := hide (F5.out.below hb6)
      have B6 := hide (B5.out.trans (hb6.mono B5.out.size))
      clear hb6
      go_wp2_with fail
      go_ret2
      exact ⟨rfl, B6.out⟩
    · have h3 := h1.resolve_left h2
      go_wp2_with fail
      refine (K27.out _).mono ?_
      rintro e w6 ⟨rfl, hb6⟩
      have F6 := hide (F5.out.below hb6)
      have B6 := hide (B5.out.trans (hb6.mono B5.out.size))
      clear hb6
      go_wp2_with fail
      go_ret2
      exact ⟨rfl, B6.out⟩
  · have h2 : ¬ a < 32 := fun h => h1 (.inl h)
    have h3 : ¬ 24 < b := fun h => h1 (.inr h)
    have e1 := hS.out
    have e2 := hT.out
    rw [if_neg h1] at e1 e2
    clear h1
    by_cases h4 : Z < 16777216
    · rw [if_pos h4] at e1 e2
      subst e1
      subst e2
      go_wp2_with fail
      go_ret2
      exact ⟨rfl, B5.out⟩
    · rw [if_neg h4] at e1 e2
      by_cases h5 : c = 0
      · rw [if_pos h5] at e1 e2
        subst e1
        subst e2
        subst h5
        go_wp2_with fail
        go_ret2
        exact ⟨rfl, B5.out⟩
      · rw [if_neg h5] at e1 e2
        subst e1
        subst e2
        go_wp2_with fail
        refine (K27.out _).mono ?_
        rintro e w6 ⟨rfl, hb6⟩
        have F6 := hide (F5.out.below hb6)
        have B6 := hide (B5.out.trans (hb6.mono B5.out.size))
        clear hb6
        go_wp2_with fail
        go_ret2
        exact ⟨rfl, B6.out⟩

end Go.Proofs.Ytodlpofpeoiedaa
