/-
  The contracts of format.Compact, CPut, CGet.
-/
import Derived.Test.YtodlpofpeoiedaaME
namespace Go.Proofs.Ytodlpofpeoiedaa
open Go.RowKit Go.Sort

set_option maxHeartbeats 1600000 in
set_option maxRecDepth 100000 in
theorem compact_walk (a b : Int) (e t : Bool) (rm gm bm rs gs bs M1 M2 M3 Y Z c : Int) (k : Nat) (S T : Int) (w : World)
    (K17 : Hid (∀ w, Calls Try.prog 17 #[.agg #[.int .i64 a, .int .i64 b, .bool e, .bool t, .int .i64 rm, .int .i64 gm, .int .i64 bm, .int .i64 rs, .int .i64 gs, .int .i64 bs]] w fun e w' => e = .returned (.bool true) ∧ Below w.heap.size w w'))
    (K27 : Hid (∀ w, Calls Try.prog 27 #[.agg #[.int .i64 a, .int .i64 b, .bool e, .bool t, .int .i64 rm, .int .i64 gm, .int .i64 bm, .int .i64 rs, .int .i64 gs, .int .i64 bs]] w fun e w' => e = .returned (.int .i64 k) ∧ Below w.heap.size w w'))
    (K1 : Hid (∀ w, Calls Try.prog 79 #[.agg #[.int .i64 rm, .int .i64 rs]] w fun e w' => e = .returned (.int .i64 M1) ∧ Below w.heap.size w w'))
    (K2 : Hid (∀ w, Calls Try.prog 79 #[.agg #[.int .i64 gm, .int .i64 gs]] w fun e w' => e = .returned (.int .i64 M2) ∧ Below w.heap.size w w'))
    (K3 : Hid (∀ w, Calls Try.prog 79 #[.agg #[.int .i64 bm, .int .i64 bs]] w fun e w' => e = .returned (.int .i64 M3) ∧ Below w.heap.size w w'))
    (o1 : bits .or .i64 0 M1 = M1) (o2 : bits .or .i64 M1 M2 = Y) (o3 : bits .or .i64 Y M3 = Z) (oc : bits .and .i64 Z 255 = c)
    (hS : Hid (S = if a < 32 ∨ 24 < b then (k : Int) else if Z < 16777216 then 3 else if c = 0 then 3 else k)) (hT : Hid (T = if a < 32 ∨ 24 < b then 0 else if Z < 16777216 then 0 else if c = 0 then 8 else 0)) :
    Calls Try.prog 43 #[.agg #[.int .i64 a, .int .i64 b, .bool e, .bool t, .int .i64 rm, .int .i64 gm, .int .i64 bm, .int .i64 rs, .int .i64 gs, .int .i64 bs]] w fun e w' => e = .returned (.tuple #[.int .i64 S, .int .i64 T]) ∧ Below w.heap.size w w' := by
  have i0 := idx0 rm rs gm gs bm bs
  have i1 := idx1 rm rs gm gs bm bs
  have i2 := idx2 rm rs gm gs bm bs
  have F0 := hide (Blk.new w 23 #[.int .i64 a, .int .i64 b, .bool e, .bool t, .int .i64 rm, .int .i64 gm, .int .i64 bm, .int .i64 rs, .int .i64 gs, .int .i64 bs])
  have B0 := hide ((Below.refl w.heap.size w).alloc (Nat.le_refl _) (.cells #[.int .i64 a, .int .i64 b, .bool e, .bool t, .int .i64 rm, .int .i64 gm, .int .i64 bm, .int .i64 rs, .int .i64 gs, .int .i64 bs] 23))
  have hgs := hide (lt_al (w := w) (o := .cells #[.int .i64 a, .int .i64 b, .bool e, .bool t, .int .i64 rm, .int .i64 gm, .int .i64 bm, .int .i64 rs, .int .i64 gs, .int .i64 bs] 23) (Below.refl _ _))
  go_enter Try.func43, Try.ntmps43
  go_upto_region 1 with fail
  generalize w.alloc (.cells #[.int .i64 a, .int .i64 b, .bool e, .bool t, .int .i64 rm, .int .i64 gm, .int .i64 bm, .int .i64 rs, .int .i64 gs, .int .i64 bs] 23) = w0 at *
  have f0 : w0.cell? ⟨w.heap.size, 0, none⟩ = some (.int .i64 a) := F0.out.cell 0
  have f1 : w0.cell? ⟨w.heap.size, 1, none⟩ = some (.int .i64 b) := F0.out.cell 1
  have f2 : w0.cell? ⟨w.heap.size, 2, none⟩ = some (.bool e) := F0.out.cell 2
  have f3 : w0.cell? ⟨w.heap.size, 3, none⟩ = some (.bool t) := F0.out.cell 3
  have f4 : w0.cell? ⟨w.heap.size, 4, none⟩ = some (.int .i64 rm) := F0.out.cell 4
  have f5 : w0.cell? ⟨w.heap.size, 5, none⟩ = some (.int .i64 gm) := F0.out.cell 5
  have f6 : w0.cell? ⟨w.heap.size, 6, none⟩ = some (.int .i64 bm) := F0.out.cell 6
  have f7 : w0.cell? ⟨w.heap.size, 7, none⟩ = some (.int .i64 rs) := F0.out.cell 7
  have f8 : w0.cell? ⟨w.heap.size, 8, none⟩ = some (.int .i64 gs) := F0.out.cell 8
  have f9 : w0.cell? ⟨w.heap.size, 9, none⟩ = some (.int .i64 bs) := F0.out.cell 9
  go_wp2_with fail
  refine (K17.out _).mono ?_
  rintro e w1 ⟨rfl, hb1⟩
  have F1 := hide (F0.out.below hb1)
  have B1 := hide (B0.out.trans (hb1.mono B0.out.size))
  clear hb1
  clear f0
  have f0 : w1.cell? ⟨w.heap.size, 0, none⟩ = some (.int .i64 a) := F1.out.cell 0
  clear f1
  have f1 : w1.cell? ⟨w.heap.size, 1, none⟩ = some (.int .i64 b) := F1.out.cell 1
  clear f2
  have f2 : w1.cell? ⟨w.heap.size, 2, none⟩ = some (.bool e) := F1.out.cell 2
  clear f3
  have f3 : w1.cell? ⟨w.heap.size, 3, none⟩ = some (.bool t) := F1.out.cell 3
  clear f4
  have f4 : w1.cell? ⟨w.heap.size, 4, none⟩ = some (.int .i64 rm) := F1.out.cell 4
  clear f5
  have f5 : w1.cell? ⟨w.heap.size, 5, none⟩ = some (.int .i64 gm) := F1.out.cell 5
  clear f6
  have f6 : w1.cell? ⟨w.heap.size, 6, none⟩ = some (.int .i64 bm) := F1.out.cell 6
  clear f7
  have f7 : w1.cell? ⟨w.heap.size, 7, none⟩ = some (.int .i64 rs) := F1.out.cell 7
  clear f8
  have f8 : w1.cell? ⟨w.heap.size, 8, none⟩ = some (.int .i64 gs) := F1.out.cell 8
  clear f9
  have f9 : w1.cell? ⟨w.heap.size, 9, none⟩ = some (.int .i64 bs) := F1.out.cell 9
  go_wp2_with fail
  refine (parts_any _ _ _ _ _ _ _ _ _ _ _).mono ?_
  rintro e w2 ⟨rfl, hb2⟩
  have F2 := hide (F1.out.below hb2)
  have B2 := hide (B1.out.trans (hb2.mono B1.out.size))
  clear hb2
  go_wp2_with fail
  refine wp_loop_rounds 4 ?_
  rw [rounds_succ]
  go_wp2_with fail
  refine (K1.out _).mono ?_
  rintro e w3 ⟨rfl, hb3⟩
  have F3 := hide ((F2.out.alloc _).below hb3)
  have B3 := hide ((B2.out.alloc B2.out.size _).trans (hb3.mono (by rw [World.size_alloc]; exact Nat.le_succ_of_le B2.out.size)))
  clear hb3
  go_wp2_with fail
  rw [rounds_succ]
  go_wp2_with fail
  refine (K2.out _).mono ?_
  rintro e w4 ⟨rfl, hb4⟩
  have F4 := hide ((F3.out.alloc _).below hb4)
  have B4 := hide ((B3.out.alloc B3.out.size _).trans (hb4.mono (by rw [World.size_alloc]; exact Nat.le_succ_of_le B3.out.size)))
  clear hb4
  go_wp2_with fail
  rw [rounds_succ]
  go_wp2_with fail
  refine (K3.out _).mono ?_
  rintro e w5 ⟨rfl, hb5⟩
  have F5 := hide ((F4.out.alloc _).below hb5)
  have B5 := hide ((B4.out.alloc B4.out.size _).trans (hb5.mono (by rw [World.size_alloc]; exact Nat.le_succ_of_le B4.out.size)))
  clear hb5
  clear f0
  have f0 : w5.cell? ⟨w.heap.size, 0, none⟩ = some (.int .i64 a) := F5.out.cell 0
  clear f1
  have f1 : w5.cell? ⟨w.heap.size, 1, none⟩ = some (.int .i64 b) := F5.out.cell 1
  clear f2
  have f2 : w5.cell? ⟨w.heap.size, 2, none⟩ = some (.bool e) := F5.out.cell 2
  clear f3
  have f3 : w5.cell? ⟨w.heap.size, 3, none⟩ = some (.bool t) := F5.out.cell 3
  clear f4
  have f4 : w5.cell? ⟨w.heap.size, 4, none⟩ = some (.int .i64 rm) := F5.out.cell 4
  clear f5
  have f5 : w5.cell? ⟨w.heap.size, 5, none⟩ = some (.int .i64 gm) := F5.out.cell 5
  clear f6
  have f6 : w5.cell? ⟨w.heap.size, 6, none⟩ = some (.int .i64 bm) := F5.out.cell 6
  clear f7
  have f7 : w5.cell? ⟨w.heap.size, 7, none⟩ = some (.int .i64 rs) := F5.out.cell 7
  clear f8
  have f8 : w5.cell? ⟨w.heap.size, 8, none⟩ = some (.int .i64 gs) := F5.out.cell 8
  clear f9
  have f9 : w5.cell? ⟨w.heap.size, 9, none⟩ = some (.int .i64 bs) := F5.out.cell 9
  go_wp2_with fail
  rw [rounds_succ]
  by_cases h1 : a < 32 ∨ 24 < b
  · have e1 := hS.out
    have e2 := hT.out
    rw [if_pos h1] at e1 e2
    subst e1
    subst e2
    by_cases h2 : a < 32
    · go_wp2_with fail
      refine (K27.out _).mono ?_
      rintro e w6 ⟨rfl, hb6⟩
      have F6 := hide (F5.out.below hb6)
      have B6 := hide (B5.out.trans (hb6.mono B5.out.size))
      clear hb6
      go_wp2_with fail
      go_ret2
      exact ⟨rfl, B6.out⟩
    · have h3 := h1.resolve_left h2
      go_wp2_with fail
      refine (K27.out _).mono ?_
      rintro e w6 ⟨rfl, hb6⟩
      have F6 := hide (F5.out.below hb6)
      have B6 := hide (B5.out.trans (hb6.mono B5.out.size))
      clear hb6
      go_wp2_with fail
      go_ret2
      exact ⟨rfl, B6.out⟩
  · have h2 : ¬ a < 32 := fun h => h1 (.inl h)
    have h3 : ¬ 24 < b := fun h => h1 (.inr h)
    have e1 := hS.out
    have e2 := hT.out
    rw [if_neg h1] at e1 e2
    clear h1
    by_cases h4 : Z < 16777216
    · rw [if_pos h4] at e1 e2
      subst e1
      subst e2
      go_wp2_with fail
      go_ret2
      exact ⟨rfl, B5.out⟩
    · rw [if_neg h4] at e1 e2
      by_cases h5 : c = 0
      · rw [if_pos h5] at e1 e2
        subst e1
        subst e2
        subst h5
        go_wp2_with fail
        go_ret2
        exact ⟨rfl, B5.out⟩
      · rw [if_neg h5] at e1 e2
        subst e1
        subst e2
        go_wp2_with fail
        refine (K27.out _).mono ?_
        rintro e w6 ⟨rfl, hb6⟩
        have F6 := hide (F5.out.below hb6)
        have B6 := hide (B5.out.trans (hb6.mono B5.out.size))
        clear hb6
        go_wp2_with fail
        go_ret2
        exact ⟨rfl, B6.out⟩

end Go.Proofs.Ytodlpofpeoiedaa

/-
  The contracts of format.Compact, CPut, CGet.
-/
namespace Go.Proofs.Ytodlpofpeoiedaa
open Go.RowKit Go.Sort

set_option maxHeartbeats 1600000 in
set_option maxRecDepth 100000 in
theorem cput_walk1 (f : Fmt) (n x y : Int) (S h : Nat) (T : ByteArray) (w : World)
    (K43 : Hid (∀ w, Calls Try.prog 43 #[fmtV f] w fun e w' => e = .returned (.tuple #[.int .i64 S, .int .i64 h]) ∧ Below w.heap.size w w'))
    (K27 : Hid (∀ w, Calls Try.prog 27 #[fmtV f] w fun e w' => e = .returned (.int .i64 1) ∧ Below w.heap.size w w'))
    (K96 : Hid (∀ w, Calls Try.prog 96 #[fmtV f, .int .i64 S, .int .i64 y] w fun e w' => e = .returned (.string T) ∧ Below w.heap.size w w'))
    (hx : bits .and .i64 n 255 = x) (hy : x / 2 ^ h = y) (hn : min h 64 = h) :
    Calls Try.prog 37 #[fmtV f, .int .i64 n] w fun e w' => e = .returned (.string T) ∧ Below w.heap.size w w' := by
  have e1 : IntKind.i64.wrap 8 = 8 := by kernel_rfl
  have e2 : ∀ w, (Op.shift .shl .i64 1 .i64 8).run Try.prog w = .ok (.int .i64 256) w := fun _ => by kernel_rfl
  have e3 : IntKind.i64.wrap (IntKind.i64.wrap 256 - 1) = 255 := by kernel_rfl
  have F0 := hide (Blk.new w 23 #[.int .i64 f.bits, .int .i64 f.depth, .bool f.big, .bool f.tru, .int .i64 f.rm, .int .i64 f.gm, .int .i64 f.bm, .int .i64 f.rs, .int .i64 f.gs, .int .i64 f.bs])
  have B0 := hide ((Below.refl w.heap.size w).alloc (Nat.le_refl _) (.cells #[.int .i64 f.bits, .int .i64 f.depth, .bool f.big, .bool f.tru, .int .i64 f.rm, .int .i64 f.gm, .int .i64 f.bm, .int .i64 f.rs, .int .i64 f.gs, .int .i64 f.bs] 23))
  go_enter Try.func37, Try.ntmps37
  go_upto_region 1 with fail
  generalize w.alloc (.cells #[.int .i64 f.bits, .int .i64 f.depth, .bool f.big, .bool f.tru, .int .i64 f.rm, .int .i64 f.gm, .int .i64 f.bm, .int .i64 f.rs, .int .i64 f.gs, .int .i64 f.bs] 23) = w0 at *
  have f0 : w0.cell? ⟨w.heap.size, 0, none⟩ = some (.int .i64 f.bits) := F0.out.cell 0
  have f1 : w0.cell? ⟨w.heap.size, 1, none⟩ = some (.int .i64 f.depth) := F0.out.cell 1
  have f2 : w0.cell? ⟨w.heap.size, 2, none⟩ = some (.bool f.big) := F0.out.cell 2
  have f3 : w0.cell? ⟨w.heap.size, 3, none⟩ = some (.bool f.tru) := F0.out.cell 3
  have f4 : w0.cell? ⟨w.heap.size, 4, none⟩ = some (.int .i64 f.rm) := F0.out.cell 4
  have f5 : w0.cell? ⟨w.heap.size, 5, none⟩ = some (.int .i64 f.gm) := F0.out.cell 5
  have f6 : w0.cell? ⟨w.heap.size, 6, none⟩ = some (.int .i64 f.bm) := F0.out.cell 6
  have f7 : w0.cell? ⟨w.heap.size, 7, none⟩ = some (.int .i64 f.rs) := F0.out.cell 7
  have f8 : w0.cell? ⟨w.heap.size, 8, none⟩ = some (.int .i64 f.gs) := F0.out.cell 8
  have f9 : w0.cell? ⟨w.heap.size, 9, none⟩ = some (.int .i64 f.bs) := F0.out.cell 9
  go_wp2_with fail
  refine (K43.out _).mono ?_
  rintro e w1 ⟨rfl, hb1⟩
  have F1 := hide (F0.out.below hb1)
  have B1 := hide (B0.out.trans (hb1.mono B0.out.size))
  clear hb1
  go_upto_region 2 with fail
  clear f0
  clear f1
  clear f2
  clear f3
  clear f4
  clear f5
  clear f6
  clear f7
  clear f8
  clear f9
  have hS1 := hide (show Blk w.heap.size 23 #[.int .i64 f.bits, .int .i64 f.depth, .bool f.big, .bool f.tru, .int .i64 f.rm, .int .i64 f.gm, .int .i64 f.bm, .int .i64 f.rs, .int .i64 f.gs, .int .i64 f.bs] w1.drew from F1.out)
  have C1 := hide (show Below w.heap.size w w1.drew from B1.out.drew)
  clear F0 B0 F1 B1
  have B1 := C1
  clear C1
  refine plan_region [(0, true), (1, true), (2, true), (3, true), (9, true), (4, false), (5, true), (6, true), (7, true), (8, true), (10, true), (11, false), (12, true)] (fun w' => Blk w.heap.size 23 #[.int .i64 f.bits, .int .i64 f.depth, .bool f.big, .bool f.tru, .int .i64 f.rm, .int .i64 f.gm, .int .i64 f.bm, .int .i64 f.rs, .int .i64 f.gs, .int .i64 f.bs] w') [] rfl (by kernel_rfl) (fun _ _ d _ _ h => by cases d <;> exact h) ?_
  generalize w1.drew = wd at *
  refine plan_v (i := 0) (N := (some 12)) (v := ?v0) (a' := ?b0) rfl rfl hS1.out (by rfl) ?hy0 ?ha0 ?_
  case hy0 =>
    intro w' hS'
    have f0 : w'.cell? ⟨w.heap.size, 0, none⟩ = some (.int .i64 f.bits) := hS'.cell 0
    have f1 : w'.cell? ⟨w.heap.size, 1, none⟩ = some (.int .i64 f.depth) := hS'.cell 1
    have f2 : w'.cell? ⟨w.heap.size, 2, none⟩ = some (.bool f.big) := hS'.cell 2
    have f3 : w'.cell? ⟨w.heap.size, 3, none⟩ = some (.bool f.tru) := hS'.cell 3
    have f4 : w'.cell? ⟨w.heap.size, 4, none⟩ = some (.int .i64 f.rm) := hS'.cell 4
    have f5 : w'.cell? ⟨w.heap.size, 5, none⟩ = some (.int .i64 f.gm) := hS'.cell 5
    have f6 : w'.cell? ⟨w.heap.size, 6, none⟩ = some (.int .i64 f.bm) := hS'.cell 6
    have f7 : w'.cell? ⟨w.heap.size, 7, none⟩ = some (.int .i64 f.rs) := hS'.cell 7
    have f8 : w'.cell? ⟨w.heap.size, 8, none⟩ = some (.int .i64 f.gs) := hS'.cell 8
    have f9 : w'.cell? ⟨w.heap.size, 9, none⟩ = some (.int .i64 f.bs) := hS'.cell 9
    go_simp
    with_reducible rfl
  case ha0 =>
    simp only [Act.put, List.setIfInBounds_toArray, List.set_cons_zero, List.set_cons_succ]
    rfl
  refine plan_v (i := 1) (N := (some 13)) (v := ?v1) (a' := ?b1) rfl rfl hS1.out (by rfl) ?hy1 ?ha1 ?_
  case hy1 =>
    intro w' hS'
    go_simp
    with_reducible rfl
  case ha1 =>
    simp only [Act.put, List.setIfInBounds_toArray, List.set_cons_zero, List.set_cons_succ]
    rfl
  refine plan_v (i := 2) (N := (some 14)) (v := ?v2) (a' := ?b2) rfl rfl hS1.out (by rfl) ?hy2 ?ha2 ?_
  case hy2 =>
    intro w' hS'
    go_simp
    with_reducible rfl
  case ha2 =>
    simp only [Act.put, List.setIfInBounds_toArray, List.set_cons_zero, List.set_cons_succ]
    rfl
  refine plan_v (i := 3) (N := (some 15)) (v := ?v3) (a' := ?b3) rfl rfl hS1.out (by rfl) ?hy3 ?ha3 ?_
  case hy3 =>
    intro w' hS'
    have f0 : w'.cell? ⟨w.heap.size, 0, none⟩ = some (.int .i64 f.bits) := hS'.cell 0
    have f1 : w'.cell? ⟨w.heap.size, 1, none⟩ = some (.int .i64 f.depth) := hS'.cell 1
    have f2 : w'.cell? ⟨w.heap.size, 2, none⟩ = some (.bool f.big) := hS'.cell 2
    have f3 : w'.cell? ⟨w.heap.size, 3, none⟩ = some (.bool f.tru) := hS'.cell 3
    have f4 : w'.cell? ⟨w.heap.size, 4, none⟩ = some (.int .i64 f.rm) := hS'.cell 4
    have f5 : w'.cell? ⟨w.heap.size, 5, none⟩ = some (.int .i64 f.gm) := hS'.cell 5
    have f6 : w'.cell? ⟨w.heap.size, 6, none⟩ = some (.int .i64 f.bm) := hS'.cell 6
    have f7 : w'.cell? ⟨w.heap.size, 7, none⟩ = some (.int .i64 f.rs) := hS'.cell 7
    have f8 : w'.cell? ⟨w.heap.size, 8, none⟩ = some (.int .i64 f.gs) := hS'.cell 8
    have f9 : w'.cell? ⟨w.heap.size, 9, none⟩ = some (.int .i64 f.bs) := hS'.cell 9
    go_simp
    with_reducible rfl
  case ha3 =>
    simp only [Act.put, List.setIfInBounds_toArray, List.set_cons_zero, List.set_cons_succ]
    rfl
  refine plan_v (i := 9) (N := (some 21)) (v := ?v9) (a' := ?b9) rfl rfl hS1.out (by rfl) ?hy9 ?ha9 ?_
  case hy9 =>
    intro w' hS'
    go_simp
    with_reducible rfl
  case ha9 =>
    simp only [Act.put, List.setIfInBounds_toArray, List.set_cons_zero, List.set_cons_succ]
    rfl
  refine plan_e (i := 4) rfl (by rfl) (fun K hK => ?_)
  go_simp
  refine (K27.out _).mono ?_
  rintro e w2 ⟨rfl, hb⟩
  have hS2 := hide (hS1.out.below hb)
  have B2 := hide (B1.out.trans (hb.mono B1.out.size))
  clear hb
  refine hK _ _ (fun _ => hS2.out) ?_
  clear hK K
  refine plan_v (i := 5) (N := (some 17)) (v := ?v5) (a' := ?b5) rfl rfl hS2.out (by rfl) ?hy5 ?ha5 ?_
  case hy5 =>
    intro w' hS'
    go_simp
    with_reducible rfl
  case ha5 =>
    simp only [Act.put, List.setIfInBounds_toArray, List.set_cons_zero, List.set_cons_succ]
    rfl
  refine plan_v (i := 6) (N := (some 18)) (v := ?v6) (a' := ?b6) rfl rfl hS2.out (by rfl) ?hy6 ?ha6 ?_
  case hy6 =>
    intro w' hS'
    go_simp
    with_reducible rfl
  case ha6 =>
    simp only [Act.put, List.setIfInBounds_toArray, List.set_cons_zero, List.set_cons_succ]
    rfl
  refine plan_v (i := 7) (N := (some 19)) (v := ?v7) (a' := ?b7) rfl rfl hS2.out (by rfl) ?hy7 ?ha7 ?_
  case hy7 =>
    intro w' hS'
    go_simp
    with_reducible rfl
  case ha7 =>
    simp only [Act.put, List.setIfInBounds_toArray, List.set_cons_zero, List.set_cons_succ]
    rfl
  refine plan_v (i := 8) (N := (some 20)) (v := ?v8) (a' := ?b8) rfl rfl hS2.out (by rfl) ?hy8 ?ha8 ?_
  case hy8 =>
    intro w' hS'
    go_simp
    with_reducible rfl
  case ha8 =>
    simp only [Act.put, List.setIfInBounds_toArray, List.set_cons_zero, List.set_cons_succ]
    rfl
  refine plan_v (i := 10) (N := (some 22)) (v := ?v10) (a' := ?b10) rfl rfl hS2.out (by rfl) ?hy10 ?ha10 ?_
  case hy10 =>
    intro w' hS'
    go_simp
    with_reducible rfl
  case ha10 =>
    simp only [Act.put, List.setIfInBounds_toArray, List.set_cons_zero, List.set_cons_succ]
    rfl
  refine plan_e (i := 11) rfl (by rfl) (fun K hK => ?_)
  go_simp
  refine (K96.out _).mono ?_
  rintro e w3 ⟨rfl, hb⟩
  have hS3 := hide (hS2.out.below hb)
  have B3 := hide (B2.out.trans (hb.mono B2.out.size))
  clear hb
  refine hK _ _ (fun _ => hS3.out) ?_
  clear hK K
  refine plan_v (i := 12) (N := (some 4)) (v := ?v12) (a' := ?b12) rfl rfl hS3.out (by rfl) ?hy12 ?ha12 ?_
  case hy12 =>
    intro w' hS'
    go_simp
    with_reducible rfl
  case ha12 =>
    simp only [Act.put, List.setIfInBounds_toArray, List.set_cons_zero, List.set_cons_succ]
    rfl
  refine plan_done ?_
  go_wp2_with fail
  go_ret
  exact ⟨rfl, B3.out⟩

set_option maxHeartbeats 1600000 in
set_option maxRecDepth 100000 in
theorem cput_walk2 (f : Fmt) (n x y : Int) (S h : Nat) (T : ByteArray) (w : World)
    (K43 : Hid (∀ w, Calls Try.prog 43 #[fmtV f] w fun e w' => e = .returned (.tuple #[.int .i64 S, .int .i64 h]) ∧ Below w.heap.size w w'))
    (K27 : Hid (∀ w, Calls Try.prog 27 #[fmtV f] w fun e w' => e = .returned (.int .i64 2) ∧ Below w.heap.size w w'))
    (K96 : Hid (∀ w, Calls Try.prog 96 #[fmtV f, .int .i64 S, .int .i64 y] w fun e w' => e = .returned (.string T) ∧ Below w.heap.size w w'))
    (hx : bits .and .i64 n 65535 = x) (hy : x / 2 ^ h = y) (hn : min h 64 = h) :
    Calls Try.prog 37 #[fmtV f, .int .i64 n] w fun e w' => e = .returned (.string T) ∧ Below w.heap.size w w' := by
  have e1 : IntKind.i64.wrap 16 = 16 := by kernel_rfl
  have e2 : ∀ w, (Op.shift .shl .i64 1 .i64 16).run Try.prog w = .ok (.int .i64 65536) w := fun _ => by kernel_rfl
  have e3 : IntKind.i64.wrap (IntKind.i64.wrap 65536 - 1) = 65535 := by kernel_rfl
  have F0 := hide (Blk.new w 23 #[.int .i64 f.bits, .int .i64 f.depth, .bool f.big, .bool f.tru, .int .i64 f.rm, .int .i64 f.gm, .int .i64 f.bm, .int .i64 f.rs, .int .i64 f.gs, .int .i64 f.bs])
  have B0 := hide ((Below.refl w.heap.size w).alloc (Nat.le_refl _) (.cells #[.int .i64 f.bits, .int .i64 f.depth, .bool f.big, .bool f.tru, .int .i64 f.rm, .int .i64 f.gm, .int .i64 f.bm, .int .i64 f.rs, .int .i64 f.gs, .int .i64 f.bs] 23))
  go_enter Try.func37, Try.ntmps37
  go_upto_region 1 with fail
  generalize w.alloc (.cells #[.int .i64 f.bits, .int .i64 f.depth, .bool f.big, .bool f.tru, .int .i64 f.rm, .int .i64 f.gm, .int .i64 f.bm, .int .i64 f.rs, .int .i64 f.gs, .int .i64 f.bs] 23) = w0 at *
  have f0 : w0.cell? ⟨w.heap.size, 0, none⟩ = some (.int .i64 f.bits) := F0.out.cell 0
  have f1 : w0.cell? ⟨w.heap.size, 1, none⟩ = some (.int .i64 f.depth) := F0.out.cell 1
  have f2 : w0.cell? ⟨w.heap.size, 2, none⟩ = some (.bool f.big) := F0.out.cell 2
  have f3 : w0.cell? ⟨w.heap.size, 3, none⟩ = some (.bool f.tru) := F0.out.cell 3
  have f4 : w0.cell? ⟨w.heap.size, 4, none⟩ = some (.int .i64 f.rm) := F0.out.cell 4
  have f5 : w0.cell? ⟨w.heap.size, 5, none⟩ = some (.int .i64 f.gm) := F0.out.cell 5
  have f6 : w0.cell? ⟨w.heap.size, 6, none⟩ = some (.int .i64 f.bm) := F0.out.cell 6
  have f7 : w0.cell? ⟨w.heap.size, 7, none⟩ = some (.int .i64 f.rs) := F0.out.cell 7
  have f8 : w0.cell? ⟨w.heap.size, 8, none⟩ = some (.int .i64 f.gs) := F0.out.cell 8
  have f9 : w0.cell? ⟨w.heap.size, 9, none⟩ = some (.int .i64 f.bs) := F0.out.cell 9
  go_wp2_with fail
  refine (K43.out _).mono ?_
  rintro e w1 ⟨rfl, hb1⟩
  have F1 := hide (F0.out.below hb1)
  have B1 := hide (B0.out.trans (hb1.mono B0.out.size))
  clear hb1
  go_upto_region 2 with fail
  clear f0
  clear f1
  clear f2
  clear f3
  clear f4
  clear f5
  clear f6
  clear f7
  clear f8
  clear f9
  have hS1 := hide (show Blk w.heap.size 23 #[.int .i64 f.bits, .int .i64 f.depth, .bool f.big, .bool f.tru, .int .i64 f.rm, .int .i64 f.gm, .int .i64 f.bm, .int .i64 f.rs, .int .i64 f.gs, .int .i64 f.bs] w1.drew from F1.out)
  have C1 := hide (show Below w.heap.size w w1.drew from B1.out.drew)
  clear F0 B0 F1 B1
  have B1 := C1
  clear C1
  refine plan_region [(0, true), (1, true), (2, true), (3, true), (9, true), (4, false), (5, true), (6, true), (7, true), (8, true), (10, true), (11, false), (12, true)] (fun w' => Blk w.heap.size 23 #[.int .i64 f.bits, .int .i64 f.depth, .bool f.big, .bool f.tru, .int .i64 f.rm, .int .i64 f.gm, .int .i64 f.bm, .int .i64 f.rs, .int .i64 f.gs, .int .i64 f.bs] w') [] rfl (by kernel_rfl) (fun _ _ d _ _ h => by cases d <;> exact h) ?_
  generalize w1.drew = wd at *
  refine plan_v (i := 0) (N := (some 12)) (v := ?v0) (a' := ?b0) rfl rfl hS1.out (by rfl) ?hy0 ?ha0 ?_
  case hy0 =>
    intro w' hS'
    have f0 : w'.cell? ⟨w.heap.size, 0, none⟩ = some (.int .i64 f.bits) := hS'.cell 0
    have f1 : w'.cell? ⟨w.heap.size, 1, none⟩ = some (.int .i64 f.depth) := hS'.cell 1
    have f2 : w'.cell? ⟨w.heap.size, 2, none⟩ = some (.bool f.big) := hS'.cell 2
    have f3 : w'.cell? ⟨w.heap.size, 3, none⟩ = some (.bool f.tru) := hS'.cell 3
    have f4 : w'.cell? ⟨w.heap.size, 4, none⟩ = some (.int .i64 f.rm) := hS'.cell 4
    have f5 : w'.cell? ⟨w.heap.size, 5, none⟩ = some (.int .i64 f.gm) := hS'.cell 5
    have f6 : w'.cell? ⟨w.heap.size, 6, none⟩ = some (.int .i64 f.bm) := hS'.cell 6
    have f7 : w'.cell? ⟨w.heap.size, 7, none⟩ = some (.int .i64 f.rs) := hS'.cell 7
    have f8 : w'.cell? ⟨w.heap.size, 8, none⟩ = some (.int .i64 f.gs) := hS'.cell 8
    have f9 : w'.cell? ⟨w.heap.size, 9, none⟩ = some (.int .i64 f.bs) := hS'.cell 9
    go_simp
    with_reducible rfl
  case ha0 =>
    simp only [Act.put, List.setIfInBounds_toArray, List.set_cons_zero, List.set_cons_succ]
    rfl
  refine plan_v (i := 1) (N := (some 13)) (v := ?v1) (a' := ?b1) rfl rfl hS1.out (by rfl) ?hy1 ?ha1 ?_
  case hy1 =>
    intro w' hS'
    go_simp
    with_reducible rfl
  case ha1 =>
    simp only [Act.put, List.setIfInBounds_toArray, List.set_cons_zero, List.set_cons_succ]
    rfl
  refine plan_v (i := 2) (N := (some 14)) (v := ?v2) (a' := ?b2) rfl rfl hS1.out (by rfl) ?hy2 ?ha2 ?_
  case hy2 =>
    intro w' hS'
    go_simp
    with_reducible rfl
  case ha2 =>
    simp only [Act.put, List.setIfInBounds_toArray, List.set_cons_zero, List.set_cons_succ]
    rfl
  refine plan_v (i := 3) (N := (some 15)) (v := ?v3) (a' := ?b3) rfl rfl hS1.out (by rfl) ?hy3 ?ha3 ?_
  case hy3 =>
    intro w' hS'
    have f0 : w'.cell? ⟨w.heap.size, 0, none⟩ = some (.int .i64 f.bits) := hS'.cell 0
    have f1 : w'.cell? ⟨w.heap.size, 1, none⟩ = some (.int .i64 f.depth) := hS'.cell 1
    have f2 : w'.cell? ⟨w.heap.size, 2, none⟩ = some (.bool f.big) := hS'.cell 2
    have f3 : w'.cell? ⟨w.heap.size, 3, none⟩ = some (.bool f.tru) := hS'.cell 3
    have f4 : w'.cell? ⟨w.heap.size, 4, none⟩ = some (.int .i64 f.rm) := hS'.cell 4
    have f5 : w'.cell? ⟨w.heap.size, 5, none⟩ = some (.int .i64 f.gm) := hS'.cell 5
    have f6 : w'.cell? ⟨w.heap.size, 6, none⟩ = some (.int .i64 f.bm) := hS'.cell 6
    have f7 : w'.cell? ⟨w.heap.size, 7, none⟩ = some (.int .i64 f.rs) := hS'.cell 7
    have f8 : w'.cell? ⟨w.heap.size, 8, none⟩ = some (.int .i64 f.gs) := hS'.cell 8
    have f9 : w'.cell? ⟨w.heap.size, 9, none⟩ = some (.int .i64 f.bs) := hS'.cell 9
    go_simp
    with_reducible rfl
  case ha3 =>
    simp only [Act.put, List.setIfInBounds_toArray, List.set_cons_zero, List.set_cons_succ]
    rfl
  refine plan_v (i := 9) (N := (some 21)) (v := ?v9) (a' := ?b9) rfl rfl hS1.out (by rfl) ?hy9 ?ha9 ?_
  case hy9 =>
    intro w' hS'
    go_simp
    with_reducible rfl
  case ha9 =>
    simp only [Act.put, List.setIfInBounds_toArray, List.set_cons_zero, List.set_cons_succ]
    rfl
  refine plan_e (i := 4) rfl (by rfl) (fun K hK => ?_)
  go_simp
  refine (K27.out _).mono ?_
  rintro e w2 ⟨rfl, hb⟩
  have hS2 := hide (hS1.out.below hb)
  have B2 := hide (B1.out.trans (hb.mono B1.out.size))
  clear hb
  refine hK _ _ (fun _ => hS2.out) ?_
  clear hK K
  refine plan_v (i := 5) (N := (some 17)) (v := ?v5) (a' := ?b5) rfl rfl hS2.out (by rfl) ?hy5 ?ha5 ?_
  case hy5 =>
    intro w' hS'
    go_simp
    with_reducible rfl
  case ha5 =>
    simp only [Act.put, List.setIfInBounds_toArray, List.set_cons_zero, List.set_cons_succ]
    rfl
  refine plan_v (i := 6) (N := (some 18)) (v := ?v6) (a' := ?b6) rfl rfl hS2.out (by rfl) ?hy6 ?ha6 ?_
  case hy6 =>
    intro w' hS'
    go_simp
    with_reducible rfl
  case ha6 =>
    simp only [Act.put, List.setIfInBounds_toArray, List.set_cons_zero, List.set_cons_succ]
    rfl
  refine plan_v (i := 7) (N := (some 19)) (v := ?v7) (a' := ?b7) rfl rfl hS2.out (by rfl) ?hy7 ?ha7 ?_
  case hy7 =>
    intro w' hS'
    go_simp
    with_reducible rfl
  case ha7 =>
    simp only [Act.put, List.setIfInBounds_toArray, List.set_cons_zero, List.set_cons_succ]
    rfl
  refine plan_v (i := 8) (N := (some 20)) (v := ?v8) (a' := ?b8) rfl rfl hS2.out (by rfl) ?hy8 ?ha8 ?_
  case hy8 =>
    intro w' hS'
    go_simp
    with_reducible rfl
  case ha8 =>
    simp only [Act.put, List.setIfInBounds_toArray, List.set_cons_zero, List.set_cons_succ]
    rfl
  refine plan_v (i := 10) (N := (some 22)) (v := ?v10) (a' := ?b10) rfl rfl hS2.out (by rfl) ?hy10 ?ha10 ?_
  case hy10 =>
    intro w' hS'
    go_simp
    with_reducible rfl
  case ha10 =>
    simp only [Act.put, List.setIfInBounds_toArray, List.set_cons_zero, List.set_cons_succ]
    rfl
  refine plan_e (i := 11) rfl (by rfl) (fun K hK => ?_)
  go_simp
  refine (K96.out _).mono ?_
  rintro e w3 ⟨rfl, hb⟩
  have hS3 := hide (hS2.out.below hb)
  have B3 := hide (B2.out.trans (hb.mono B2.out.size))
  clear hb
  refine hK _ _ (fun _ => hS3.out) ?_
  clear hK K
  refine plan_v (i := 12) (N := (some 4)) (v := ?v12) (a' := ?b12) rfl rfl hS3.out (by rfl) ?hy12 ?ha12 ?_
  case hy12 =>
    intro w' hS'
    go_simp
    with_reducible rfl
  case ha12 =>
    simp only [Act.put, List.setIfInBounds_toArray, List.set_cons_zero, List.set_cons_succ]
    rfl
  refine plan_done ?_
  go_wp2_with fail
  go_ret
  exact ⟨rfl, B3.out⟩

set_option maxHeartbeats 1600000 in
set_option maxRecDepth 100000 in
theorem cput_walk4 (f : Fmt) (n x y : Int) (S h : Nat) (T : ByteArray) (w : World)
    (K43 : Hid (∀ w, Calls Try.prog 43 #[fmtV f] w fun e w' => e = .returned (.tuple #[.int .i64 S, .int .i64 h]) ∧ Below w.heap.size w w'))
    (K27 : Hid (∀ w, Calls Try.prog 27 #[fmtV f] w fun e w' => e = .returned (.int .i64 4) ∧ Below w.heap.size w w'))
    (K96 : Hid (∀ w, Calls Try.prog 96 #[fmtV f, .int .i64 S, .int .i64 y] w fun e w' => e = .returned (.string T) ∧ Below w.heap.size w w'))
    (hx : bits .and .i64 n 4294967295 = x) (hy : x / 2 ^ h = y) (hn : min h 64 = h) :
    Calls Try.prog 37 #[fmtV f, .int .i64 n] w fun e w' => e = .returned (.string T) ∧ Below w.heap.size w w' := by
  have e1 : IntKind.i64.wrap 32 = 32 := by kernel_rfl
  have e2 : ∀ w, (Op.shift .shl .i64 1 .i64 32).run Try.prog w = .ok (.int .i64 4294967296) w := fun _ => by kernel_rfl
  have e3 : IntKind.i64.wrap (IntKind.i64.wrap 4294967296 - 1) = 4294967295 := by kernel_rfl
  have F0 := hide (Blk.new w 23 #[.int .i64 f.bits, .int .i64 f.depth, .bool f.big, .bool f.tru, .int .i64 f.rm, .int .i64 f.gm, .int .i64 f.bm, .int .i64 f.rs, .int .i64 f.gs, .int .i64 f.bs])
  have B0 := hide ((Below.refl w.heap.size w).alloc (Nat.le_refl _) (.cells #[.int .i64 f.bits, .int .i64 f.depth, .bool f.big, .bool f.tru, .int .i64 f.rm, .int .i64 f.gm, .int .i64 f.bm, .int .i64 f.rs, .int .i64 f.gs, .int .i64 f.bs] 23))
  go_enter Try.func37, Try.ntmps37
  go_upto_region 1 with fail
  generalize w.alloc (.cells #[.int .i64 f.bits, .int .i64 f.depth, .bool f.big, .bool f.tru, .int .i64 f.rm, .int .i64 f.gm, .int .i64 f.bm, .int .i64 f.rs, .int .i64 f.gs, .int .i64 f.bs] 23) = w0 at *
  have f0 : w0.cell? ⟨w.heap.size, 0, none⟩ = some (.int .i64 f.bits) := F0.out.cell 0
  have f1 : w0.cell? ⟨w.heap.size, 1, none⟩ = some (.int .i64 f.depth) := F0.out.cell 1
  have f2 : w0.cell? ⟨w.heap.size, 2, none⟩ = some (.bool f.big) := F0.out.cell 2
  have f3 : w0.cell? ⟨w.heap.size, 3, none⟩ = some (.bool f.tru) := F0.out.cell 3
  have f4 : w0.cell? ⟨w.heap.size, 4, none⟩ = some (.int .i64 f.rm) := F0.out.cell 4
  have f5 : w0.cell? ⟨w.heap.size, 5, none⟩ = some (.int .i64 f.gm) := F0.out.cell 5
  have f6 : w0.cell? ⟨w.heap.size, 6, none⟩ = some (.int .i64 f.bm) := F0.out.cell 6
  have f7 : w0.cell? ⟨w.heap.size, 7, none⟩ = some (.int .i64 f.rs) := F0.out.cell 7
  have f8 : w0.cell? ⟨w.heap.size, 8, none⟩ = some (.int .i64 f.gs) := F0.out.cell 8
  have f9 : w0.cell? ⟨w.heap.size, 9, none⟩ = some (.int .i64 f.bs) := F0.out.cell 9
  go_wp2_with fail
  refine (K43.out _).mono ?_
  rintro e w1 ⟨rfl, hb1⟩
  have F1 := hide (F0.out.below hb1)
  have B1 := hide (B0.out.trans (hb1.mono B0.out.size))
  clear hb1
  go_upto_region 2 with fail
  clear f0
  clear f1
  clear f2
  clear f3
  clear f4
  clear f5
  clear f6
  clear f7
  clear f8
  clear f9
  have hS1 := hide (show Blk w.heap.size 23 #[.int .i64 f.bits, .int .i64 f.depth, .bool f.big, .bool f.tru, .int .i64 f.rm, .int .i64 f.gm, .int .i64 f.bm, .int .i64 f.rs, .int .i64 f.gs, .int .i64 f.bs] w1.drew from F1.out)
  have C1 := hide (show Below w.heap.size w w1.drew from B1.out.drew)
  clear F0 B0 F1 B1
  have B1 := C1
  clear C1
  refine plan_region [(0, true), (1, true), (2, true), (3, true), (9, true), (4, false), (5, true), (6, true), (7, true), (8, true), (10, true), (11, false), (12, true)] (fun w' => Blk w.heap.size 23 #[.int .i64 f.bits, .int .i64 f.depth, .bool f.big, .bool f.tru, .int .i64 f.rm, .int .i64 f.gm, .int .i64 f.bm, .int .i64 f.rs, .int .i64 f.gs, .int .i64 f.bs] w') [] rfl (by kernel_rfl) (fun _ _ d _ _ h => by cases d <;> exact h) ?_
  generalize w1.drew = wd at *
  refine plan_v (i := 0) (N := (some 12)) (v := ?v0) (a' := ?b0) rfl rfl hS1.out (by rfl) ?hy0 ?ha0 ?_
  case hy0 =>
    intro w' hS'
    have f0 : w'.cell? ⟨w.heap.size, 0, none⟩ = some (.int .i64 f.bits) := hS'.cell 0
    have f1 : w'.cell? ⟨w.heap.size, 1, none⟩ = some (.int .i64 f.depth) := hS'.cell 1
    have f2 : w'.cell? ⟨w.heap.size, 2, none⟩ = some (.bool f.big) := hS'.cell 2
    have f3 : w'.cell? ⟨w.heap.size, 3, none⟩ = some (.bool f.tru) := hS'.cell 3
    have f4 : w'.cell? ⟨w.heap.size, 4, none⟩ = some (.int .i64 f.rm) := hS'.cell 4
    have f5 : w'.cell? ⟨w.heap.size, 5, none⟩ = some (.int .i64 f.gm) := hS'.cell 5
    have f6 : w'.cell? ⟨w.heap.size, 6, none⟩ = some (.int .i64 f.bm) := hS'.cell 6
    have f7 : w'.cell? ⟨w.heap.size, 7, none⟩ = some (.int .i64 f.rs) := hS'.cell 7
    have f8 : w'.cell? ⟨w.heap.size, 8, none⟩ = some (.int .i64 f.gs) := hS'.cell 8
    have f9 : w'.cell? ⟨w.heap.size, 9, none⟩ = some (.int .i64 f.bs) := hS'.cell 9
    go_simp
    with_reducible rfl
  case ha0 =>
    simp only [Act.put, List.setIfInBounds_toArray, List.set_cons_zero, List.set_cons_succ]
    rfl
  refine plan_v (i := 1) (N := (some 13)) (v := ?v1) (a' := ?b1) rfl rfl hS1.out (by rfl) ?hy1 ?ha1 ?_
  case hy1 =>
    intro w' hS'
    go_simp
    with_reducible rfl
  case ha1 =>
    simp only [Act.put, List.setIfInBounds_toArray, List.set_cons_zero, List.set_cons_succ]
    rfl
  refine plan_v (i := 2) (N := (some 14)) (v := ?v2) (a' := ?b2) rfl rfl hS1.out (by rfl) ?hy2 ?ha2 ?_
  case hy2 =>
    intro w' hS'
    go_simp
    with_reducible rfl
  case ha2 =>
    simp only [Act.put, List.setIfInBounds_toArray, List.set_cons_zero, List.set_cons_succ]
    rfl
  refine plan_v (i := 3) (N := (some 15)) (v := ?v3) (a' := ?b3) rfl rfl hS1.out (by rfl) ?hy3 ?ha3 ?_
  case hy3 =>
    intro w' hS'
    have f0 : w'.cell? ⟨w.heap.size, 0, none⟩ = some (.int .i64 f.bits) := hS'.cell 0
    have f1 : w'.cell? ⟨w.heap.size, 1, none⟩ = some (.int .i64 f.depth) := hS'.cell 1
    have f2 : w'.cell? ⟨w.heap.size, 2, none⟩ = some (.bool f.big) := hS'.cell 2
    have f3 : w'.cell? ⟨w.heap.size, 3, none⟩ = some (.bool f.tru) := hS'.cell 3
    have f4 : w'.cell? ⟨w.heap.size, 4, none⟩ = some (.int .i64 f.rm) := hS'.cell 4
    have f5 : w'.cell? ⟨w.heap.size, 5, none⟩ = some (.int .i64 f.gm) := hS'.cell 5
    have f6 : w'.cell? ⟨w.heap.size, 6, none⟩ = some (.int .i64 f.bm) := hS'.cell 6
    have f7 : w'.cell? ⟨w.heap.size, 7, none⟩ = some (.int .i64 f.rs) := hS'.cell 7
    have f8 : w'.cell? ⟨w.heap.size, 8, none⟩ = some (.int .i64 f.gs) := hS'.cell 8
    have f9 : w'.cell? ⟨w.heap.size, 9, none⟩ = some (.int .i64 f.bs) := hS'.cell 9
    go_simp
    with_reducible rfl
  case ha3 =>
    simp only [Act.put, List.setIfInBounds_toArray, List.set_cons_zero, List.set_cons_succ]
    rfl
  refine plan_v (i := 9) (N := (some 21)) (v := ?v9) (a' := ?b9) rfl rfl hS1.out (by rfl) ?hy9 ?ha9 ?_
  case hy9 =>
    intro w' hS'
    go_simp
    with_reducible rfl
  case ha9 =>
    simp only [Act.put, List.setIfInBounds_toArray, List.set_cons_zero, List.set_cons_succ]
    rfl
  refine plan_e (i := 4) rfl (by rfl) (fun K hK => ?_)
  go_simp
  refine (K27.out _).mono ?_
  rintro e w2 ⟨rfl, hb⟩
  have hS2 := hide (hS1.out.below hb)
  have B2 := hide (B1.out.trans (hb.mono B1.out.size))
  clear hb
  refine hK _ _ (fun _ => hS2.out) ?_
  clear hK K
  refine plan_v (i := 5) (N := (some 17)) (v := ?v5) (a' := ?b5) rfl rfl hS2.out (by rfl) ?hy5 ?ha5 ?_
  case hy5 =>
    intro w' hS'
    go_simp
    with_reducible rfl
  case ha5 =>
    simp only [Act.put, List.setIfInBounds_toArray, List.set_cons_zero, List.set_cons_succ]
    rfl
  refine plan_v (i := 6) (N := (some 18)) (v := ?v6) (a' := ?b6) rfl rfl hS2.out (by rfl) ?hy6 ?ha6 ?_
  case hy6 =>
    intro w' hS'
    go_simp
    with_reducible rfl
  case ha6 =>
    simp only [Act.put, List.setIfInBounds_toArray, List.set_cons_zero, List.set_cons_succ]
    rfl
  refine plan_v (i := 7) (N := (some 19)) (v := ?v7) (a' := ?b7) rfl rfl hS2.out (by rfl) ?hy7 ?ha7 ?_
  case hy7 =>
    intro w' hS'
    go_simp
    with_reducible rfl
  case ha7 =>
    simp only [Act.put, List.setIfInBounds_toArray, List.set_cons_zero, List.set_cons_succ]
    rfl
  refine plan_v (i := 8) (N := (some 20)) (v := ?v8) (a' := ?b8) rfl rfl hS2.out (by rfl) ?hy8 ?ha8 ?_
  case hy8 =>
    intro w' hS'
    go_simp
    with_reducible rfl
  case ha8 =>
    simp only [Act.put, List.setIfInBounds_toArray, List.set_cons_zero, List.set_cons_succ]
    rfl
  refine plan_v (i := 10) (N := (some 22)) (v := ?v10) (a' := ?b10) rfl rfl hS2.out (by rfl) ?hy10 ?ha10 ?_
  case hy10 =>
    intro w' hS'
    go_simp
    with_reducible rfl
  case ha10 =>
    simp only [Act.put, List.setIfInBounds_toArray, List.set_cons_zero, List.set_cons_succ]
    rfl
  refine plan_e (i := 11) rfl (by rfl) (fun K hK => ?_)
  go_simp
  refine (K96.out _).mono ?_
  rintro e w3 ⟨rfl, hb⟩
  have hS3 := hide (hS2.out.below hb)
  have B3 := hide (B2.out.trans (hb.mono B2.out.size))
  clear hb
  refine hK _ _ (fun _ => hS3.out) ?_
  clear hK K
  refine plan_v (i := 12) (N := (some 4)) (v := ?v12) (a' := ?b12) rfl rfl hS3.out (by rfl) ?hy12 ?ha12 ?_
  case hy12 =>
    intro w' hS'
    go_simp
    with_reducible rfl
  case ha12 =>
    simp only [Act.put, List.setIfInBounds_toArray, List.set_cons_zero, List.set_cons_succ]
    rfl
  refine plan_done ?_
  go_wp2_with fail
  go_ret
  exact ⟨rfl, B3.out⟩

set_option maxHeartbeats 1600000 in
set_option maxRecDepth 100000 in
theorem cget_walk (f : Fmt) (s : ByteArray) (v E r : Int) (S h : Nat) (w : World)
    (K43 : Hid (∀ w, Calls Try.prog 43 #[fmtV f] w fun e w' => e = .returned (.tuple #[.int .i64 S, .int .i64 h]) ∧ Below w.heap.size w w'))
    (K97 : Hid (∀ w, Calls Try.prog 97 #[fmtV f, .int .i64 S, .string s] w fun e w' => e = .returned (.tuple #[.int .i64 v, .int .i64 E]) ∧ Below w.heap.size w w'))
    (hr : v * 2 ^ h = r) (h0 : 0 ≤ r) (h1 : r ≤ 281474976710656) (hn : min h 64 = h) :
    Calls Try.prog 42 #[fmtV f, .string s] w fun e w' => e = .returned (.tuple #[.int .i64 r, .int .i64 E]) ∧ Below w.heap.size w w' := by
  have F0 := hide (Blk.new w 23 #[.int .i64 f.bits, .int .i64 f.depth, .bool f.big, .bool f.tru, .int .i64 f.rm, .int .i64 f.gm, .int .i64 f.bm, .int .i64 f.rs, .int .i64 f.gs, .int .i64 f.bs])
  have B0 := hide ((Below.refl w.heap.size w).alloc (Nat.le_refl _) (.cells #[.int .i64 f.bits, .int .i64 f.depth, .bool f.big, .bool f.tru, .int .i64 f.rm, .int .i64 f.gm, .int .i64 f.bm, .int .i64 f.rs, .int .i64 f.gs, .int .i64 f.bs] 23))
  go_enter Try.func42, Try.ntmps42
  go_upto_region 1 with fail
  generalize w.alloc (.cells #[.int .i64 f.bits, .int .i64 f.depth, .bool f.big, .bool f.tru, .int .i64 f.rm, .int .i64 f.gm, .int .i64 f.bm, .int .i64 f.rs, .int .i64 f.gs, .int .i64 f.bs] 23) = w0 at *
  have f0 : w0.cell? ⟨w.heap.size, 0, none⟩ = some (.int .i64 f.bits) := F0.out.cell 0
  have f1 : w0.cell? ⟨w.heap.size, 1, none⟩ = some (.int .i64 f.depth) := F0.out.cell 1
  have f2 : w0.cell? ⟨w.heap.size, 2, none⟩ = some (.bool f.big) := F0.out.cell 2
  have f3 : w0.cell? ⟨w.heap.size, 3, none⟩ = some (.bool f.tru) := F0.out.cell 3
  have f4 : w0.cell? ⟨w.heap.size, 4, none⟩ = some (.int .i64 f.rm) := F0.out.cell 4
  have f5 : w0.cell? ⟨w.heap.size, 5, none⟩ = some (.int .i64 f.gm) := F0.out.cell 5
  have f6 : w0.cell? ⟨w.heap.size, 6, none⟩ = some (.int .i64 f.bm) := F0.out.cell 6
  have f7 : w0.cell? ⟨w.heap.size, 7, none⟩ = some (.int .i64 f.rs) := F0.out.cell 7
  have f8 : w0.cell? ⟨w.heap.size, 8, none⟩ = some (.int .i64 f.gs) := F0.out.cell 8
  have f9 : w0.cell? ⟨w.heap.size, 9, none⟩ = some (.int .i64 f.bs) := F0.out.cell 9
  go_wp2_with fail
  refine (K43.out _).mono ?_
  rintro e w1 ⟨rfl, hb1⟩
  have F1 := hide (F0.out.below hb1)
  have B1 := hide (B0.out.trans (hb1.mono B0.out.size))
  clear hb1
  clear f0
  clear f1
  clear f2
  clear f3
  clear f4
  clear f5
  clear f6
  clear f7
  clear f8
  clear f9
  have f0 : w1.cell? ⟨w.heap.size, 0, none⟩ = some (.int .i64 f.bits) := F1.out.cell 0
  have f1 : w1.cell? ⟨w.heap.size, 1, none⟩ = some (.int .i64 f.depth) := F1.out.cell 1
  have f2 : w1.cell? ⟨w.heap.size, 2, none⟩ = some (.bool f.big) := F1.out.cell 2
  have f3 : w1.cell? ⟨w.heap.size, 3, none⟩ = some (.bool f.tru) := F1.out.cell 3
  have f4 : w1.cell? ⟨w.heap.size, 4, none⟩ = some (.int .i64 f.rm) := F1.out.cell 4
  have f5 : w1.cell? ⟨w.heap.size, 5, none⟩ = some (.int .i64 f.gm) := F1.out.cell 5
  have f6 : w1.cell? ⟨w.heap.size, 6, none⟩ = some (.int .i64 f.bm) := F1.out.cell 6
  have f7 : w1.cell? ⟨w.heap.size, 7, none⟩ = some (.int .i64 f.rs) := F1.out.cell 7
  have f8 : w1.cell? ⟨w.heap.size, 8, none⟩ = some (.int .i64 f.gs) := F1.out.cell 8
  have f9 : w1.cell? ⟨w.heap.size, 9, none⟩ = some (.int .i64 f.bs) := F1.out.cell 9
  go_wp2_with fail
  refine (K97.out _).mono ?_
  rintro e w2 ⟨rfl, hb2⟩
  have B2 := hide (B1.out.trans (hb2.mono B1.out.size))
  clear hb2
  go_wp2_with fail
  go_ret2
  exact ⟨rfl, B2.out⟩

end Go.Proofs.Ytodlpofpeoiedaa

/-
  Compact, CPut, CGet of a format that may be; miradorref01.Turned.
-/
namespace Go.Proofs.Ytodlpofpeoiedaa
open Go.RowKit Go.Sort

/-- All of a format's bits that a colour's value may have. -/
def allM (f : Fmt) : Int := f.rm * 2 ^ f.rs.toNat + f.gm * 2 ^ f.gs.toNat + f.bm * 2 ^ f.bs.toNat
/-- How many bytes a value needs, and its shift. -/
def compS (f : Fmt) : Nat := if f.bits < 32 ∨ 24 < f.depth then sizeN f else if allM f < 16777216 then 3 else if allM f % 256 = 0 then 3 else sizeN f
def compH (f : Fmt) : Nat := if f.bits < 32 ∨ 24 < f.depth then 0 else if allM f < 16777216 then 0 else if allM f % 256 = 0 then 8 else 0

theorem compS_le (f : Fmt) : compS f ≤ 4 := by
  have := size_le f
  unfold compS
  split
  · exact this
  · split
    · decide
    · split
      · decide
      · exact this

theorem compH_or (f : Fmt) : compH f = 0 ∨ compH f = 8 := by
  unfold compH
  split
  · exact .inl rfl
  · split
    · exact .inl rfl
    · split
      · exact .inr rfl
      · exact .inl rfl

/-- format.Compact of a format that may be. -/
theorem compact_any (f : Fmt) (w : World) (hf : f.fit) (h : validB f = true) :
    Calls Try.prog 43 #[fmtV f] w fun e w' => e = .returned (.tuple #[.int .i64 (compS f), .int .i64 (compH f)]) ∧ Below w.heap.size w w' := by
  have K17 := fun w => valid_fit f w hf
  rw [h] at K17
  have K27 := fun w => size_any f w hf
  obtain ⟨hb, r1, r2, r3, _⟩ := valid_parts h
  have hn : f.bits ≤ 32 := by omega
  obtain ⟨q1, q2, q3, q4⟩ := partOk_bd hn r1
  obtain ⟨q5, q6, q7, q8⟩ := partOk_bd hn r2
  obtain ⟨q9, q10, q11, q12⟩ := partOk_bd hn r3
  obtain ⟨_, _, _, o1, o2, o3⟩ := val_parts h (d1 := f.rm) (d2 := f.gm) (d3 := f.bm) (by omega) (by omega) (by omega)
  have K1 := fun w => mask_any f.rm f.rs w (by omega) q2 q3 q4
  have K2 := fun w => mask_any f.gm f.gs w (by omega) q6 q7 q8
  have K3 := fun w => mask_any f.bm f.bs w (by omega) q10 q11 q12
  refine compact_walk f.bits f.depth f.big f.tru f.rm f.gm f.bm f.rs f.gs f.bs _ _ _ _ (allM f) (allM f % 256) (sizeN f) _ _ w K17 K27 K1 K2 K3 o1 o2 o3 (and_255 _) ?_ ?_
  · refine hide ?_
    unfold compS
    split
    · rfl
    · split
      · rfl
      · split <;> rfl
  · refine hide ?_
    unfold compH
    split
    · rfl
    · split
      · rfl
      · split <;> rfl

theorem and_pow2 (n : Int) {k : Nat} (h : k = 8 ∨ k = 16 ∨ k = 32) : bits .and .i64 n (2 ^ k - 1) = n % 2 ^ k := by
  have hm : (BitVec.ofInt 64 (2 ^ k - 1)).toNat = 2 ^ k - 1 := by
    rcases h with h | h | h <;> subst h <;> decide
  have key : (BitVec.ofInt 64 n &&& BitVec.ofInt 64 (2 ^ k - 1)).toNat = (n % ((2 ^ 64 : Nat) : Int)).toNat % 2 ^ k := by
    rw [BitVec.toNat_and, BitVec.toNat_ofInt, hm, Nat.and_two_pow_sub_one_eq_mod]
  show IntKind.i64.wrap ((BitVec.ofInt 64 n &&& BitVec.ofInt 64 (2 ^ k - 1)).toNat : Nat) = n % 2 ^ k
  rw [key, IntKind.wrap_i64]
  clear key hm
  rcases h with h | h | h <;> subst h <;> omega

/-- A colour's value in as few bytes as it needs. -/
def cputV (f : Fmt) (n : Int) : ByteArray := ordB f.big (compS f) (n % 2 ^ f.bits.toNat / 2 ^ compH f)

theorem cput_any (f : Fmt) (n : Int) (w : World) (hf : f.fit) (h : validB f = true) :
    Calls Try.prog 37 #[fmtV f, .int .i64 n] w fun e w' => e = .returned (.string (cputV f n)) ∧ Below w.heap.size w w' := by
  have K43 := fun w => compact_any f w hf h
  have K27 := fun w => size_any f w hf
  have K96 := fun w => put96_all f (compS f) (n % 2 ^ f.bits.toNat / 2 ^ compH f) w (Nat.le_trans (compS_le f) (by decide))
  have hmin : min (compH f) 64 = compH f := by rcases compH_or f with h | h <;> rw [h] <;> rfl
  obtain ⟨hb, _⟩ := valid_parts h
  obtain ⟨hs, hs2⟩ := size_valid h
  rcases hs2 with e | e | e
  · have eb : f.bits.toNat = 8 := by omega
    rw [e] at K27
    exact cput_walk1 f n _ _ (compS f) (compH f) _ w K43 K27 K96 (by rw [eb]; exact and_pow2 n (k := 8) (.inl rfl)) rfl hmin
  · have eb : f.bits.toNat = 16 := by omega
    rw [e] at K27
    exact cput_walk2 f n _ _ (compS f) (compH f) _ w K43 K27 K96 (by rw [eb]; exact and_pow2 n (k := 16) (.inr (.inl rfl))) rfl hmin
  · have eb : f.bits.toNat = 32 := by omega
    rw [e] at K27
    exact cput_walk4 f n _ _ (compS f) (compH f) _ w K43 K27 K96 (by rw [eb]; exact and_pow2 n (k := 32) (.inr (.inr rfl))) rfl hmin

theorem getV_bd (f : Fmt) (k : Nat) (s : ByteArray) (hk : k ≤ 4) : 0 ≤ getV f k s ∧ getV f k s ≤ 4294967295 := by
  unfold getV
  split
  · have := beV_small (ordL f.big (s.data.toList.take k)) 4 (by decide)
    rwa [List.take_of_length_le (by rw [ordL_length, List.length_take]; omega)] at this
  · omega

theorem cget_any (f : Fmt) (s : ByteArray) (w : World) (hf : f.fit) (h : validB f = true) :
    Calls Try.prog 42 #[fmtV f, .string s] w fun e w' => e = .returned (.tuple #[.int .i64 (getV f (compS f) s * 2 ^ compH f), .int .i64 (getE f (compS f) s)]) ∧ Below w.heap.size w w' := by
  have hg := getV_bd f (compS f) s (compS_le f)
  have hmin : min (compH f) 64 = compH f := by rcases compH_or f with h | h <;> rw [h] <;> rfl
  refine cget_walk f s _ _ _ (compS f) (compH f) w (fun w => compact_any f w hf h) (fun w => get97_any f (compS f) s w (compS_le f) hf) rfl ?_ ?_ hmin
  · rcases compH_or f with h | h <;> rw [h] <;> omega
  · rcases compH_or f with h | h <;> rw [h] <;> omega

theorem ext_one (s : ByteArray) (i : Nat) (h : i < s.size) : (s.extract i (i + 1)).data.toList = [s[i]'h] := by
  rw [ByteArray.data_extract, Array.toList_extract, List.extract_eq_take_drop]
  have h' : i < s.data.toList.length := by simpa using h
  have : i + 1 - i = 1 := by omega
  rw [this, List.drop_eq_getElem_cons h']
  rfl

theorem ext_snoc (s : ByteArray) (i : Nat) (h : i < s.size) : s.data.toList.take (i + 1) = s.data.toList.take i ++ [s[i]'h] := by
  have h' : i < s.data.toList.length := by simpa using h
  rw [List.take_succ_eq_append_getElem h']
  rfl

set_option maxHeartbeats 1600000 in
set_option maxRecDepth 100000 in
/-- miradorref01.Turned. -/
theorem turned38_any (s : ByteArray) (w : World) (hs : s.size ≤ 9223372036854775807) :
    Calls Try.prog 38 #[.string s] w fun e w' => e = .returned (.string ⟨s.data.reverse⟩) ∧ w' = w := by
  go_enter Try.func38, Try.ntmps38
  go_wp2_with fail
  go_loopw [3, 4] (fun o i wr => ∃ (j : Nat) (t : ByteArray), j ≤ s.size ∧ i = .int .i64 j ∧ o = .string t ∧ Hid (t.data.toList = (s.data.toList.take j).reverse) ∧ Hid (t.size = j) ∧ wr = w) (fun _ i _ => s.size - (intOf i).toNat)
  case atStart => exact ⟨0, ⟨#[]⟩, by omega, rfl, rfl, hide (by simp), hide rfl, rfl⟩
  case round =>
    obtain ⟨j, t, hj, rfl, rfl, ht, hts, rfl⟩ := hrel
    by_cases hlt : j < s.size
    · have hlt' : (j : Int) < s.size := by omega
      have hcat : (9223372036854775807 < min (j + 1) s.size - j + t.size) = False := eq_false (by rw [hts.out]; omega)
      go_wp2_with fail
      go_roundw
      case rel =>
        refine ⟨j + 1, s.extract j (j + 1) ++ t, by omega, by go_num, rfl, hide ?_, hide ?_, trivial⟩
        · rw [ext_snoc s j hlt, List.reverse_append, ByteArray.data_append, Array.toList_append, ht.out, ext_one s j hlt]
          rfl
        · rw [ByteArray.size_append, ByteArray.size_extract, hts.out]
          omega
      case measure => simp [intOf]; omega
    · obtain rfl : j = s.size := by omega
      have h : t = ⟨s.data.reverse⟩ := by
        have h1 := ht.out
        rw [List.take_of_length_le (by simp)] at h1
        have h2 : t.data = s.data.reverse := Array.ext' (by rw [h1, Array.toList_reverse])
        cases t
        exact congrArg ByteArray.mk h2
      have H := hide h
      clear ht h
      go_wp2_with fail
      go_ret
      exact ⟨by rw [← H.out]; rfl, rfl⟩

end Go.Proofs.Ytodlpofpeoiedaa

/-
  What is put is got again: plain words on formats, bytes and values. No program in sight.
-/
namespace Go.Proofs.Ytodlpofpeoiedaa
open Go.RowKit Go.Sort

theorem leI_mod (k : Nat) : ∀ n : Int, leI k (n % 256 ^ k) = leI k n := by
  induction k with
  | zero => intro n; rfl
  | succ k ih =>
    intro n
    have hp : (0 : Int) < 256 ^ k := Int.pow_pos (by decide)
    have e1 : n % 256 ^ (k + 1) % 256 = n % 256 := by
      rw [Int.pow_succ]
      exact Int.emod_emod_of_dvd n (Int.dvd_mul_left _ _)
    have e2 : n % 256 ^ (k + 1) / 256 = n / 256 % 256 ^ k := by
      have hd : n % 256 ^ (k + 1) = n - 256 ^ (k + 1) * (n / 256 ^ (k + 1)) := Int.emod_def _ _
      have hq : n / 256 ^ (k + 1) = n / 256 / 256 ^ k := by
        rw [Int.pow_succ, Int.mul_comm, Int.ediv_ediv_of_nonneg (by decide)]
      rw [hd, hq, Int.emod_def (n / 256), Int.pow_succ, Int.mul_comm (256 ^ k) 256, Int.mul_assoc]
      omega
    rw [leI, leI, e1, e2, ih]

theorem beB_mod (k : Nat) (n : Int) : beB k (n % 256 ^ k) = beB k n := by unfold beB; rw [leI_mod]

theorem beV_beB2 (k : Nat) (n : Int) : beV (beB k n).data.toList = n % 256 ^ k := by
  have hp : (0 : Int) < 256 ^ k := Int.pow_pos (by decide)
  rw [← beB_mod]
  exact beV_beB k _ (Int.emod_nonneg _ (Int.ne_of_gt hp)) (Int.emod_lt_of_pos _ hp)

theorem ordL_ordB (b : Bool) (k : Nat) (n : Int) : beV (ordL b (ordB b k n).data.toList) = n % 256 ^ k := by
  cases b with
  | true => exact beV_beB2 k n
  | false =>
    have e : (leB k n).data.toList.reverse = (beB k n).data.toList := by
      rw [← beB_rev]
      simp
    show beV ((leB k n).data.toList.reverse) = _
    rw [e]
    exact beV_beB2 k n

theorem ordB_len (b : Bool) (k : Nat) (n : Int) : (ordB b k n).size = k := by
  cases b
  · exact leB_size k n
  · exact beB_size k n

/-- What stands behind does no harm. -/
theorem get_put (f : Fmt) (k : Nat) (n : Int) (t : ByteArray) (h : validB f = true) : getE f k (ordB f.big k n ++ t) = 0 ∧ getV f k (ordB f.big k n ++ t) = n % 256 ^ k := by
  have e : getE f k (ordB f.big k n ++ t) = 0 := by
    unfold getE
    rw [if_pos h, if_neg (by rw [ByteArray.size_append, ordB_len]; omega)]
  refine ⟨e, ?_⟩
  unfold getV
  rw [if_pos e, ByteArray.data_append, Array.toList_append, List.take_append_of_le_length (by rw [Array.length_toList]; exact Nat.le_of_eq (ordB_len f.big k n).symm),
    List.take_of_length_le (by rw [Array.length_toList]; exact Nat.le_of_eq (ordB_len f.big k n)), ordL_ordB]

theorem pow256 {k : Nat} {b : Int} (hb : (k : Int) = b / 8) (hb2 : b = 8 ∨ b = 16 ∨ b = 32) : (256 : Int) ^ k = 2 ^ b.toNat := by
  have : b.toNat = 8 * k := by omega
  rw [this, Int.pow_mul]
  rfl

/-- A part's mask, as a natural number. -/
theorem mask_parts {n m s : Int} (hn : n = 8 ∨ n = 16 ∨ n = 32) (h : partOk n m s = true) :
    ∃ x : Nat, m * 2 ^ s.toNat = x ∧ x < 9223372036854775808 ∧ x < 2 ^ n.toNat ∧ (∃ k : Nat, 1 ≤ k ∧ m + 1 = 2 ^ k) ∧ 0 ≤ s := by
  obtain ⟨hw, h0, hl⟩ := partOk_iff.1 h
  obtain ⟨q1, q2, q3, q4⟩ := partOk_bd (by omega) h
  obtain ⟨x, hx, hxl⟩ := mk_nat q1 q2 q3 q4
  rcases widthOf_spec m with ⟨h', _⟩ | ⟨a, b, he⟩
  · exact absurd h' hw
  · refine ⟨x, hx, hxl, ?_, ⟨_, a, he⟩, h0⟩
    have hp : (0 : Int) < 2 ^ s.toNat := Int.pow_pos (by decide)
    have h1 : m * 2 ^ s.toNat < 2 ^ widthOf m * 2 ^ s.toNat := Int.mul_lt_mul_of_pos_right (by omega) hp
    rw [← Int.pow_add] at h1
    have h2 : (2 : Int) ^ (widthOf m + s.toNat) ≤ 2 ^ n.toNat := by
      have : (2 : Nat) ^ (widthOf m + s.toNat) ≤ 2 ^ n.toNat := Nat.pow_le_pow_right (by decide) (by omega)
      have e : ∀ k : Nat, ((2 ^ k : Nat) : Int) = (2 : Int) ^ k := fun k => by simp
      rw [← e, ← e]
      exact Int.ofNat_le.2 this
    have h3 : (x : Int) < ((2 ^ n.toNat : Nat) : Int) := by
      have e : ((2 ^ n.toNat : Nat) : Int) = (2 : Int) ^ n.toNat := by simp
      rw [e, ← hx]
      exact Int.lt_of_lt_of_le h1 h2
    exact Int.ofNat_lt.1 h3

theorem part8 {m : Int} {s k : Nat} (hk : 1 ≤ k) (hm : m + 1 = 2 ^ k) (h : m * 2 ^ s % 256 = 0) (d : Int) : d * 2 ^ s % 256 = 0 := by
  have hodd : m % 2 = 1 := by
    obtain ⟨j, rfl⟩ : ∃ j, k = j + 1 := ⟨k - 1, by omega⟩
    rw [Int.pow_succ] at hm
    omega
  by_cases hs : s < 8
  · have : s = 0 ∨ s = 1 ∨ s = 2 ∨ s = 3 ∨ s = 4 ∨ s = 5 ∨ s = 6 ∨ s = 7 := by omega
    rcases this with e | e | e | e | e | e | e | e <;> subst e <;> omega
  · obtain ⟨j, rfl⟩ : ∃ j, s = j + 8 := ⟨s - 8, by omega⟩
    rw [Int.pow_add, ← Int.mul_assoc]
    exact Int.mul_emod_left _ _

theorem or_low8 {x y : Nat} (h : (x ||| y) % 256 = 0) : x % 256 = 0 ∧ y % 256 = 0 := by
  have e : ∀ z : Nat, z % 256 = z &&& 255 := fun z => (Nat.and_two_pow_sub_one_eq_mod z 8).symm
  rw [e, Nat.and_or_distrib_right] at h
  rw [e, e]
  exact Nat.or_eq_zero_iff.1 h

/-- All of a format's bits. -/
theorem all_parts {f : Fmt} (h : validB f = true) : 0 ≤ allM f ∧ allM f < 2 ^ f.bits.toNat ∧
    (allM f % 256 = 0 → f.rm * 2 ^ f.rs.toNat % 256 = 0 ∧ f.gm * 2 ^ f.gs.toNat % 256 = 0 ∧ f.bm * 2 ^ f.bs.toNat % 256 = 0) := by
  obtain ⟨hb, r1, r2, r3, a12, a13, a23⟩ := valid_parts h
  obtain ⟨x1, e1, l1, m1, _⟩ := mask_parts hb r1
  obtain ⟨x2, e2, l2, m2, _⟩ := mask_parts hb r2
  obtain ⟨x3, e3, l3, m3, _⟩ := mask_parts hb r3
  unfold mk at a12 a13 a23
  unfold allM
  rw [e1, e2] at a12
  rw [e1, e3] at a13
  rw [e2, e3] at a23
  have z12 := and_zero_nat l1 l2 a12
  have z13 := and_zero_nat l1 l3 a13
  have z23 := and_zero_nat l2 l3 a23
  have o12 := or_add_nat x1 x2 z12
  have z : (x1 ||| x2) &&& x3 = 0 := by rw [Nat.and_or_distrib_right, z13, z23]; rfl
  have o := or_add_nat (x1 ||| x2) x3 z
  rw [e1, e2, e3]
  have hs : (x1 : Int) + x2 + x3 = (((x1 ||| x2) ||| x3 : Nat) : Int) := by
    rw [o, o12]
    omega
  rw [hs]
  have hlt : ((x1 ||| x2) ||| x3) < 2 ^ f.bits.toNat := Nat.or_lt_two_pow (Nat.or_lt_two_pow m1 m2) m3
  refine ⟨by omega, ?_, fun h8 => ?_⟩
  · have e : ((2 ^ f.bits.toNat : Nat) : Int) = (2 : Int) ^ f.bits.toNat := by simp
    rw [← e]
    exact Int.ofNat_lt.2 hlt
  · have h8' : ((x1 ||| x2) ||| x3) % 256 = 0 := by omega
    obtain ⟨h12, h3⟩ := or_low8 h8'
    obtain ⟨h1, h2⟩ := or_low8 h12
    omega

theorem mul_le_pow {d m : Int} (s : Nat) (h0 : 0 ≤ d) (h1 : d ≤ m) : 0 ≤ d * 2 ^ s ∧ d * 2 ^ s ≤ m * 2 ^ s := by
  have hp : (0 : Int) < 2 ^ s := Int.pow_pos (by decide)
  exact ⟨Int.mul_nonneg h0 (Int.le_of_lt hp), Int.mul_le_mul_of_nonneg_right h1 (Int.le_of_lt hp)⟩

/-- A colour's value lies among the format's bits. -/
theorem val_in {f : Fmt} (h : validB f = true) (n : Int) : 0 ≤ valV f n ∧ valV f n ≤ allM f ∧ (allM f % 256 = 0 → valV f n % 256 = 0) := by
  obtain ⟨hb, r1, r2, r3, _⟩ := valid_parts h
  have hn : f.bits ≤ 32 := by omega
  obtain ⟨q1, q2, q3, q4⟩ := partOk_bd hn r1
  obtain ⟨q5, q6, q7, q8⟩ := partOk_bd hn r2
  obtain ⟨q9, q10, q11, q12⟩ := partOk_bd hn r3
  obtain ⟨x1, y1⟩ := mod_bd (n / 65536)
  obtain ⟨x2, y2⟩ := mod_bd (n / 256)
  obtain ⟨x3, y3⟩ := mod_bd n
  have D1 := dn_bd x1 y1 (show 0 ≤ f.rm by omega)
  have D2 := dn_bd x2 y2 (show 0 ≤ f.gm by omega)
  have D3 := dn_bd x3 y3 (show 0 ≤ f.bm by omega)
  obtain ⟨_, _, _, _, ⟨k1, j1, t1⟩, _⟩ := mask_parts hb r1
  obtain ⟨_, _, _, _, ⟨k2, j2, t2⟩, _⟩ := mask_parts hb r2
  obtain ⟨_, _, _, _, ⟨k3, j3, t3⟩, _⟩ := mask_parts hb r3
  have P1 := mul_le_pow f.rs.toNat D1.1 D1.2
  have P2 := mul_le_pow f.gs.toNat D2.1 D2.2
  have P3 := mul_le_pow f.bs.toNat D3.1 D3.2
  have A := (all_parts h).2.2
  unfold valV
  refine ⟨by omega, by unfold allM; omega, fun h8 => ?_⟩
  obtain ⟨g1, g2, g3⟩ := A h8
  have E1 := part8 j1 t1 g1 (dn (n / 65536 % 256) f.rm)
  have E2 := part8 j2 t2 g2 (dn (n / 256 % 256) f.gm)
  have E3 := part8 j3 t3 g3 (dn (n % 256) f.bm)
  omega

/-- As few bytes as a value needs are enough. -/
theorem comp_back {f : Fmt} (h : validB f = true) (n : Int) : (valV f n % 2 ^ f.bits.toNat / 2 ^ compH f) % 256 ^ compS f * 2 ^ compH f = valV f n ∧ valV f n < 2 ^ f.bits.toNat := by
  obtain ⟨v0, v1, v8⟩ := val_in h n
  obtain ⟨_, a1, _⟩ := all_parts h
  obtain ⟨hb, _⟩ := valid_parts h
  obtain ⟨hs, hs2⟩ := size_valid h
  have hp := pow256 hs hb
  have hlt : valV f n < 2 ^ f.bits.toNat := by omega
  refine ⟨?_, hlt⟩
  rw [Int.emod_eq_of_lt v0 hlt]
  unfold compS compH
  split
  · rw [hp, Int.pow_zero, Int.ediv_one, Int.mul_one, Int.emod_eq_of_lt v0 hlt]
  · split
    · rw [Int.pow_zero, Int.ediv_one, Int.mul_one]
      exact Int.emod_eq_of_lt v0 (by omega)
    · split
      · rename_i h1 h2 h3
        have e := v8 h3
        have hb32 : f.bits.toNat = 32 := by omega
        rw [hb32] at hlt
        omega
      · rw [hp, Int.pow_zero, Int.ediv_one, Int.mul_one, Int.emod_eq_of_lt v0 hlt]

end Go.Proofs.Ytodlpofpeoiedaa
