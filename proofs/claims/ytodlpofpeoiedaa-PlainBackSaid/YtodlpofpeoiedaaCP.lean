/-
  PlainRaws: the law.
-/
import Derived.Test.YtodlpofpeoiedaaML
namespace Go.Proofs.Ytodlpofpeoiedaa
open Go.RowKit Go.Sort

theorem ints_keep {w w' : World} {a : Option Addr} {n : Nat} {zs : List Int} (h : IntsIn w.heap.size w a n zs) (hb : Below w.heap.size w w') : IntsIn w'.heap.size w' a n zs := intsIn_mono (h.below hb) hb.size

set_option maxHeartbeats 6400000 in
set_option maxRecDepth 100000 in
theorem law5_no (f : Fmt) (a1 : Option Addr) (n1 c1 : Nat) (zs xs : List Int) (a b N E : Int) (V : Bool) (s : ByteArray) (w : World) (h1 : n1 ≤ 400) (h2 : s.size ≤ 1600) (hI : Hid (IntsIn w.heap.size w a1 n1 zs))
    (K26 : Hid (∀ w, Calls Try.prog 26 #[fmtV f, .int .i64 a, .int .i64 b, .string s] w fun e w' => ∃ a n c, e = .returned (.tuple #[.slice a n c, .int .i64 N, .int .i64 E]) ∧ IntsIn w'.heap.size w' a n xs ∧ n ≤ 9223372036854775807 ∧ Below w.heap.size w w'))
    (K29 : Hid (∀ w, Calls Try.prog 29 #[fmtV f, .int .i64 a, .int .i64 b, .string s] w fun e w' => ∃ a n c, e = .returned (.tuple #[.slice a n c, .int .i64 N, .int .i64 E]) ∧ IntsIn w'.heap.size w' a n xs ∧ n ≤ 9223372036854775807 ∧ Below w.heap.size w w'))
    (K24 : Hid (∀ w, Calls Try.prog 24 #[fmtV f, .int .i64 a, .int .i64 b] w fun e w' => e = .returned (.bool V) ∧ Below w.heap.size w w'))
    (K31 : Hid (∀ w, Calls Try.prog 31 #[fmtV f, .int .i64 a, .int .i64 b] w fun e w' => e = .returned (.bool V) ∧ Below w.heap.size w w'))
    (K17 : Hid (∀ w, Calls Try.prog 17 #[fmtV f] w fun e w' => e = .returned (.bool false) ∧ Below w.heap.size w w'))
    (K25 : Hid (∀ w, IntsIn w.heap.size w a1 n1 zs → Calls Try.prog 25 #[fmtV f, .slice a1 n1 c1] w fun e w' => e = .returned (.string ⟨#[]⟩) ∧ Below w.heap.size w w'))
    : Calls Try.prog 5 #[fmtV f, .slice a1 n1 c1, .int .i64 a, .int .i64 b, .string s] w fun e w' => e = .returned (.bool true) ∧ Below w.heap.size w w' := by
  have hn1 : (n1 : Int) ≤ 400 := by omega
  have hs1 : (s.size : Int) ≤ 1600 := by omega
  have F0 := hide (Blk.new w 23 (fmtC f))
  have B0 := hide ((Below.refl w.heap.size w).alloc (Nat.le_refl _) (.cells (fmtC f) 23))
  go_enter Try.func5, Try.ntmps5
  go_upto_region 1 with fail
  generalize w.alloc (.cells (fmtC f) 23) = w0 at *
  go_wp2_with fail
  refine (works23_any _).mono ?_
  rintro e w1 ⟨rfl, hb⟩
  have F1 := hide (F0.out.below hb)
  have B1 := hide (B0.out.trans (hb.mono B0.out.size))
  clear hb
  have f0 : w1.cell? ⟨w.heap.size, 0, none⟩ = some (.int .i64 f.bits) := F1.out.cell 0
  have f1 : w1.cell? ⟨w.heap.size, 1, none⟩ = some (.int .i64 f.depth) := F1.out.cell 1
  have f2 : w1.cell? ⟨w.heap.size, 2, none⟩ = some (.bool f.big) := F1.out.cell 2
  have f3 : w1.cell? ⟨w.heap.size, 3, none⟩ = some (.bool f.tru) := F1.out.cell 3
  have f4 : w1.cell? ⟨w.heap.size, 4, none⟩ = some (.int .i64 f.rm) := F1.out.cell 4
  have f5 : w1.cell? ⟨w.heap.size, 5, none⟩ = some (.int .i64 f.gm) := F1.out.cell 5
  have f6 : w1.cell? ⟨w.heap.size, 6, none⟩ = some (.int .i64 f.bm) := F1.out.cell 6
  have f7 : w1.cell? ⟨w.heap.size, 7, none⟩ = some (.int .i64 f.rs) := F1.out.cell 7
  have f8 : w1.cell? ⟨w.heap.size, 8, none⟩ = some (.int .i64 f.gs) := F1.out.cell 8
  have f9 : w1.cell? ⟨w.heap.size, 9, none⟩ = some (.int .i64 f.bs) := F1.out.cell 9
  go_wp2_with fail
  refine (K26.out _).mono ?_
  rintro e w2 ⟨a3, m3, c3, rfl, hp3, hm3, hb⟩
  have F2 := hide (F1.out.below hb)
  have B2 := hide (B1.out.trans (hb.mono B1.out.size))
  have P2 := hide hp3
  clear hp3
  clear hb
  clear f0 f1 f2 f3 f4 f5 f6 f7 f8 f9
  have f0 : w2.cell? ⟨w.heap.size, 0, none⟩ = some (.int .i64 f.bits) := F2.out.cell 0
  have f1 : w2.cell? ⟨w.heap.size, 1, none⟩ = some (.int .i64 f.depth) := F2.out.cell 1
  have f2 : w2.cell? ⟨w.heap.size, 2, none⟩ = some (.bool f.big) := F2.out.cell 2
  have f3 : w2.cell? ⟨w.heap.size, 3, none⟩ = some (.bool f.tru) := F2.out.cell 3
  have f4 : w2.cell? ⟨w.heap.size, 4, none⟩ = some (.int .i64 f.rm) := F2.out.cell 4
  have f5 : w2.cell? ⟨w.heap.size, 5, none⟩ = some (.int .i64 f.gm) := F2.out.cell 5
  have f6 : w2.cell? ⟨w.heap.size, 6, none⟩ = some (.int .i64 f.bm) := F2.out.cell 6
  have f7 : w2.cell? ⟨w.heap.size, 7, none⟩ = some (.int .i64 f.rs) := F2.out.cell 7
  have f8 : w2.cell? ⟨w.heap.size, 8, none⟩ = some (.int .i64 f.gs) := F2.out.cell 8
  have f9 : w2.cell? ⟨w.heap.size, 9, none⟩ = some (.int .i64 f.bs) := F2.out.cell 9
  go_wp2_with fail
  refine (K29.out _).mono ?_
  rintro e w3 ⟨a4, m4, c4, rfl, hp4, hm4, hb⟩
  have F3 := hide (F2.out.below hb)
  have B3 := hide (B2.out.trans (hb.mono B2.out.size))
  have P3 := hide (ints_keep P2.out hb)
  have Q3 := hide hp4
  clear hp4
  clear hb
  clear f0 f1 f2 f3 f4 f5 f6 f7 f8 f9
  go_wp2_with fail
  refine (row_any _ _ _ _ _ _ xs xs _ P3.out Q3.out hm3).mono ?_
  rintro e w4 ⟨rfl, hb⟩
  have F4 := hide (F3.out.below hb)
  have B4 := hide (B3.out.trans (hb.mono B3.out.size))
  clear hb
  go_wp2_with fail
  have F5 := hide (show Blk w.heap.size 23 (fmtC f) w4.drew from F4.out)
  have B5 := hide (show Below w.heap.size w w4.drew from B4.out.drew)
  refine plan_region [(0, true), (1, true), (2, true), (3, true), (4, true), (5, true), (6, true), (7, true), (8, true), (9, true), (10, true), (11, true), (12, true), (13, true), (14, true), (15, true), (17, true), (18, true), (19, true), (16, false), (20, false), (21, true), (22, true)] (fun w' => Blk w.heap.size 23 (fmtC f) w') [] rfl (by kernel_rfl) (fun _ _ d _ _ h => by cases d <;> exact h) ?_
  generalize w4.drew = w5 at *
  refine plan_v (i := 0) (N := (some 53)) (v := ?v9x0) (a' := ?b9x0) rfl rfl F5.out (by rfl) ?hy9x0 ?ha9x0 ?_
  case hy9x0 =>
    intro w' hS'
    go_simp
    with_reducible rfl
  case ha9x0 =>
    simp only [Act.put, List.setIfInBounds_toArray, List.set_cons_zero, List.set_cons_succ]
    rfl
  refine plan_v (i := 1) (N := (some 54)) (v := ?v9x1) (a' := ?b9x1) rfl rfl F5.out (by rfl) ?hy9x1 ?ha9x1 ?_
  case hy9x1 =>
    intro w' hS'
    go_simp
    with_reducible rfl
  case ha9x1 =>
    simp only [Act.put, List.setIfInBounds_toArray, List.set_cons_zero, List.set_cons_succ]
    rfl
  refine plan_v (i := 2) (N := (some 55)) (v := ?v9x2) (a' := ?b9x2) rfl rfl F5.out (by rfl) ?hy9x2 ?ha9x2 ?_
  case hy9x2 =>
    intro w' hS'
    go_simp
    with_reducible rfl
  case ha9x2 =>
    simp only [Act.put, List.setIfInBounds_toArray, List.set_cons_zero, List.set_cons_succ]
    rfl
  refine plan_v (i := 3) (N := (some 56)) (v := ?v9x3) (a' := ?b9x3) rfl rfl F5.out (by rfl) ?hy9x3 ?ha9x3 ?_
  case hy9x3 =>
    intro w' hS'
    go_simp
    with_reducible rfl
  case ha9x3 =>
    simp only [Act.put, List.setIfInBounds_toArray, List.set_cons_zero, List.set_cons_succ]
    rfl
  refine plan_v (i := 4) (N := (some 57)) (v := ?v9x4) (a' := ?b9x4) rfl rfl F5.out (by rfl) ?hy9x4 ?ha9x4 ?_
  case hy9x4 =>
    intro w' hS'
    go_simp
    with_reducible rfl
  case ha9x4 =>
    simp only [Act.put, List.setIfInBounds_toArray, List.set_cons_zero, List.set_cons_succ]
    rfl
  refine plan_v (i := 5) (N := (some 58)) (v := ?v9x5) (a' := ?b9x5) rfl rfl F5.out (by rfl) ?hy9x5 ?ha9x5 ?_
  case hy9x5 =>
    intro w' hS'
    go_simp
    with_reducible rfl
  case ha9x5 =>
    simp only [Act.put, List.setIfInBounds_toArray, List.set_cons_zero, List.set_cons_succ]
    rfl
  refine plan_v (i := 6) (N := (some 59)) (v := ?v9x6) (a' := ?b9x6) rfl rfl F5.out (by rfl) ?hy9x6 ?ha9x6 ?_
  case hy9x6 =>
    intro w' hS'
    go_simp
    with_reducible rfl
  case ha9x6 =>
    simp only [Act.put, List.setIfInBounds_toArray, List.set_cons_zero, List.set_cons_succ]
    rfl
  refine plan_v (i := 7) (N := (some 60)) (v := ?v9x7) (a' := ?b9x7) rfl rfl F5.out (by rfl) ?hy9x7 ?ha9x7 ?_
  case hy9x7 =>
    intro w' hS'
    go_simp
    with_reducible rfl
  case ha9x7 =>
    simp only [Act.put, List.setIfInBounds_toArray, List.set_cons_zero, List.set_cons_succ]
    rfl
  refine plan_v (i := 8) (N := (some 61)) (v := ?v9x8) (a' := ?b9x8) rfl rfl F5.out (by rfl) ?hy9x8 ?ha9x8 ?_
  case hy9x8 =>
    intro w' hS'
    go_simp
    with_reducible rfl
  case ha9x8 =>
    simp only [Act.put, List.setIfInBounds_toArray, List.set_cons_zero, List.set_cons_succ]
    rfl
  refine plan_v (i := 9) (N := (some 62)) (v := ?v9x9) (a' := ?b9x9) rfl rfl F5.out (by rfl) ?hy9x9 ?ha9x9 ?_
  case hy9x9 =>
    intro w' hS'
    go_simp
    with_reducible rfl
  case ha9x9 =>
    simp only [Act.put, List.setIfInBounds_toArray, List.set_cons_zero, List.set_cons_succ]
    rfl
  refine plan_v (i := 10) (N := (some 63)) (v := ?v9x10) (a' := ?b9x10) rfl rfl F5.out (by rfl) ?hy9x10 ?ha9x10 ?_
  case hy9x10 =>
    intro w' hS'
    go_simp
    with_reducible rfl
  case ha9x10 =>
    simp only [Act.put, List.setIfInBounds_toArray, List.set_cons_zero, List.set_cons_succ]
    rfl
  refine plan_v (i := 11) (N := (some 64)) (v := ?v9x11) (a' := ?b9x11) rfl rfl F5.out (by rfl) ?hy9x11 ?ha9x11 ?_
  case hy9x11 =>
    intro w' hS'
    go_simp
    with_reducible rfl
  case ha9x11 =>
    simp only [Act.put, List.setIfInBounds_toArray, List.set_cons_zero, List.set_cons_succ]
    rfl
  refine plan_v (i := 12) (N := (some 65)) (v := ?v9x12) (a' := ?b9x12) rfl rfl F5.out (by rfl) ?hy9x12 ?ha9x12 ?_
  case hy9x12 =>
    intro w' hS'
    go_simp
    with_reducible rfl
  case ha9x12 =>
    simp only [Act.put, List.setIfInBounds_toArray, List.set_cons_zero, List.set_cons_succ]
    rfl
  refine plan_v (i := 13) (N := (some 66)) (v := ?v9x13) (a' := ?b9x13) rfl rfl F5.out (by rfl) ?hy9x13 ?ha9x13 ?_
  case hy9x13 =>
    intro w' hS'
    have f0 : w'.cell? ⟨w.heap.size, 0, none⟩ = some (.int .i64 f.bits) := hS'.cell 0
    have f1 : w'.cell? ⟨w.heap.size, 1, none⟩ = some (.int .i64 f.depth) := hS'.cell 1
    have f2 : w'.cell? ⟨w.heap.size, 2, none⟩ = some (.bool f.big) := hS'.cell 2
    have f3 : w'.cell? ⟨w.heap.size, 3, none⟩ = some (.bool f.tru) := hS'.cell 3
    have f4 : w'.cell? ⟨w.heap.size, 4, none⟩ = some (.int .i64 f.rm) := hS'.cell 4
    have f5 : w'.cell? ⟨w.heap.size, 5, none⟩ = some (.int .i64 f.gm) := hS'.cell 5
    have f6 : w'.cell? ⟨w.heap.size, 6, none⟩ = some (.int .i64 f.bm) := hS'.cell 6
    have f7 : w'.cell? ⟨w.heap.size, 7, none⟩ = some (.int .i64 f.rs) := hS'.cell 7
    have f8 : w'.cell? ⟨w.heap.size, 8, none⟩ = some (.int .i64 f.gs) := hS'.cell 8
    have f9 : w'.cell? ⟨w.heap.size, 9, none⟩ = some (.int .i64 f.bs) := hS'.cell 9
    go_simp
    with_reducible rfl
  case ha9x13 =>
    simp only [Act.put, List.setIfInBounds_toArray, List.set_cons_zero, List.set_cons_succ]
    rfl
  refine plan_v (i := 14) (N := (some 67)) (v := ?v9x14) (a' := ?b9x14) rfl rfl F5.out (by rfl) ?hy9x14 ?ha9x14 ?_
  case hy9x14 =>
    intro w' hS'
    go_simp
    with_reducible rfl
  case ha9x14 =>
    simp only [Act.put, List.setIfInBounds_toArray, List.set_cons_zero, List.set_cons_succ]
    rfl
  refine plan_v (i := 15) (N := (some 68)) (v := ?v9x15) (a' := ?b9x15) rfl rfl F5.out (by rfl) ?hy9x15 ?ha9x15 ?_
  case hy9x15 =>
    intro w' hS'
    go_simp
    with_reducible rfl
  case ha9x15 =>
    simp only [Act.put, List.setIfInBounds_toArray, List.set_cons_zero, List.set_cons_succ]
    rfl
  refine plan_v (i := 17) (N := (some 70)) (v := ?v9x17) (a' := ?b9x17) rfl rfl F5.out (by rfl) ?hy9x17 ?ha9x17 ?_
  case hy9x17 =>
    intro w' hS'
    have f0 : w'.cell? ⟨w.heap.size, 0, none⟩ = some (.int .i64 f.bits) := hS'.cell 0
    have f1 : w'.cell? ⟨w.heap.size, 1, none⟩ = some (.int .i64 f.depth) := hS'.cell 1
    have f2 : w'.cell? ⟨w.heap.size, 2, none⟩ = some (.bool f.big) := hS'.cell 2
    have f3 : w'.cell? ⟨w.heap.size, 3, none⟩ = some (.bool f.tru) := hS'.cell 3
    have f4 : w'.cell? ⟨w.heap.size, 4, none⟩ = some (.int .i64 f.rm) := hS'.cell 4
    have f5 : w'.cell? ⟨w.heap.size, 5, none⟩ = some (.int .i64 f.gm) := hS'.cell 5
    have f6 : w'.cell? ⟨w.heap.size, 6, none⟩ = some (.int .i64 f.bm) := hS'.cell 6
    have f7 : w'.cell? ⟨w.heap.size, 7, none⟩ = some (.int .i64 f.rs) := hS'.cell 7
    have f8 : w'.cell? ⟨w.heap.size, 8, none⟩ = some (.int .i64 f.gs) := hS'.cell 8
    have f9 : w'.cell? ⟨w.heap.size, 9, none⟩ = some (.int .i64 f.bs) := hS'.cell 9
    go_simp
    with_reducible rfl
  case ha9x17 =>
    simp only [Act.put, List.setIfInBounds_toArray, List.set_cons_zero, List.set_cons_succ]
    rfl
  refine plan_v (i := 18) (N := (some 71)) (v := ?v9x18) (a' := ?b9x18) rfl rfl F5.out (by rfl) ?hy9x18 ?ha9x18 ?_
  case hy9x18 =>
    intro w' hS'
    go_simp
    with_reducible rfl
  case ha9x18 =>
    simp only [Act.put, List.setIfInBounds_toArray, List.set_cons_zero, List.set_cons_succ]
    rfl
  refine plan_v (i := 19) (N := (some 72)) (v := ?v9x19) (a' := ?b9x19) rfl rfl F5.out (by rfl) ?hy9x19 ?ha9x19 ?_
  case hy9x19 =>
    intro w' hS'
    go_simp
    with_reducible rfl
  case ha9x19 =>
    simp only [Act.put, List.setIfInBounds_toArray, List.set_cons_zero, List.set_cons_succ]
    rfl
  refine plan_e (i := 16) rfl (by rfl) (fun K hK => ?_)
  go_simp
  refine (K24.out _).mono ?_
  rintro e w6 ⟨rfl, hb⟩
  have F6 := hide (F5.out.below hb)
  have B6 := hide (B5.out.trans (hb.mono B5.out.size))
  clear hb
  refine hK _ _ (fun _ => F6.out) ?_
  clear hK K
  refine plan_e (i := 20) rfl (by rfl) (fun K hK => ?_)
  go_simp
  refine (K31.out _).mono ?_
  rintro e w7 ⟨rfl, hb⟩
  have F7 := hide (F6.out.below hb)
  have B7 := hide (B6.out.trans (hb.mono B6.out.size))
  clear hb
  refine hK _ _ (fun _ => F7.out) ?_
  clear hK K
  refine plan_v (i := 21) (N := (some 74)) (v := ?v9x21) (a' := ?b9x21) rfl rfl F7.out (by rfl) ?hy9x21 ?ha9x21 ?_
  case hy9x21 =>
    intro w' hS'
    go_simp
    with_reducible rfl
  case ha9x21 =>
    simp only [Act.put, List.setIfInBounds_toArray, List.set_cons_zero, List.set_cons_succ]
    rfl
  refine plan_v (i := 22) (N := (some 75)) (v := ?v9x22) (a' := ?b9x22) rfl rfl F7.out (by rfl) ?hy9x22 ?ha9x22 ?_
  case hy9x22 =>
    intro w' hS'
    go_simp
    with_reducible rfl
  case ha9x22 =>
    simp only [Act.put, List.setIfInBounds_toArray, List.set_cons_zero, List.set_cons_succ]
    rfl
  refine plan_done ?_
  have f0 : w7.cell? ⟨w.heap.size, 0, none⟩ = some (.int .i64 f.bits) := F7.out.cell 0
  have f1 : w7.cell? ⟨w.heap.size, 1, none⟩ = some (.int .i64 f.depth) := F7.out.cell 1
  have f2 : w7.cell? ⟨w.heap.size, 2, none⟩ = some (.bool f.big) := F7.out.cell 2
  have f3 : w7.cell? ⟨w.heap.size, 3, none⟩ = some (.bool f.tru) := F7.out.cell 3
  have f4 : w7.cell? ⟨w.heap.size, 4, none⟩ = some (.int .i64 f.rm) := F7.out.cell 4
  have f5 : w7.cell? ⟨w.heap.size, 5, none⟩ = some (.int .i64 f.gm) := F7.out.cell 5
  have f6 : w7.cell? ⟨w.heap.size, 6, none⟩ = some (.int .i64 f.bm) := F7.out.cell 6
  have f7 : w7.cell? ⟨w.heap.size, 7, none⟩ = some (.int .i64 f.rs) := F7.out.cell 7
  have f8 : w7.cell? ⟨w.heap.size, 8, none⟩ = some (.int .i64 f.gs) := F7.out.cell 8
  have f9 : w7.cell? ⟨w.heap.size, 9, none⟩ = some (.int .i64 f.bs) := F7.out.cell 9
  go_wp2_with fail
  refine (K17.out _).mono ?_
  rintro e w8 ⟨rfl, hb⟩
  have F8 := hide (F7.out.below hb)
  have B8 := hide (B7.out.trans (hb.mono B7.out.size))
  clear hb
  clear f0 f1 f2 f3 f4 f5 f6 f7 f8 f9
  have f0 : w8.cell? ⟨w.heap.size, 0, none⟩ = some (.int .i64 f.bits) := F8.out.cell 0
  have f1 : w8.cell? ⟨w.heap.size, 1, none⟩ = some (.int .i64 f.depth) := F8.out.cell 1
  have f2 : w8.cell? ⟨w.heap.size, 2, none⟩ = some (.bool f.big) := F8.out.cell 2
  have f3 : w8.cell? ⟨w.heap.size, 3, none⟩ = some (.bool f.tru) := F8.out.cell 3
  have f4 : w8.cell? ⟨w.heap.size, 4, none⟩ = some (.int .i64 f.rm) := F8.out.cell 4
  have f5 : w8.cell? ⟨w.heap.size, 5, none⟩ = some (.int .i64 f.gm) := F8.out.cell 5
  have f6 : w8.cell? ⟨w.heap.size, 6, none⟩ = some (.int .i64 f.bm) := F8.out.cell 6
  have f7 : w8.cell? ⟨w.heap.size, 7, none⟩ = some (.int .i64 f.rs) := F8.out.cell 7
  have f8 : w8.cell? ⟨w.heap.size, 8, none⟩ = some (.int .i64 f.gs) := F8.out.cell 8
  have f9 : w8.cell? ⟨w.heap.size, 9, none⟩ = some (.int .i64 f.bs) := F8.out.cell 9
  go_wp2_with fail
  refine (K25.out _ (intsIn_mono (hI.out.below B8.out) B8.out.size)).mono ?_
  rintro e w9 ⟨rfl, hb⟩
  have F9 := hide (F8.out.below hb)
  have B9 := hide (B8.out.trans (hb.mono B8.out.size))
  clear hb
  clear f0 f1 f2 f3 f4 f5 f6 f7 f8 f9
  go_wp2_with fail
  go_ret
  exact ⟨rfl, B9.out⟩

set_option maxHeartbeats 6400000 in
set_option maxRecDepth 100000 in
theorem law5_yes (f : Fmt) (a1 : Option Addr) (n1 c1 : Nat) (zs xs vs : List Int) (a b N E : Int) (V : Bool) (T : ByteArray) (s : ByteArray) (w : World) (h1 : n1 ≤ 400) (h2 : s.size ≤ 1600) (hI : Hid (IntsIn w.heap.size w a1 n1 zs))
    (K26 : Hid (∀ w, Calls Try.prog 26 #[fmtV f, .int .i64 a, .int .i64 b, .string s] w fun e w' => ∃ a n c, e = .returned (.tuple #[.slice a n c, .int .i64 N, .int .i64 E]) ∧ IntsIn w'.heap.size w' a n xs ∧ n ≤ 9223372036854775807 ∧ Below w.heap.size w w'))
    (K29 : Hid (∀ w, Calls Try.prog 29 #[fmtV f, .int .i64 a, .int .i64 b, .string s] w fun e w' => ∃ a n c, e = .returned (.tuple #[.slice a n c, .int .i64 N, .int .i64 E]) ∧ IntsIn w'.heap.size w' a n xs ∧ n ≤ 9223372036854775807 ∧ Below w.heap.size w w'))
    (K24 : Hid (∀ w, Calls Try.prog 24 #[fmtV f, .int .i64 a, .int .i64 b] w fun e w' => e = .returned (.bool V) ∧ Below w.heap.size w w'))
    (K31 : Hid (∀ w, Calls Try.prog 31 #[fmtV f, .int .i64 a, .int .i64 b] w fun e w' => e = .returned (.bool V) ∧ Below w.heap.size w w'))
    (K17 : Hid (∀ w, Calls Try.prog 17 #[fmtV f] w fun e w' => e = .returned (.bool true) ∧ Below w.heap.size w w'))
    (K25 : Hid (∀ w, IntsIn w.heap.size w a1 n1 zs → Calls Try.prog 25 #[fmtV f, .slice a1 n1 c1] w fun e w' => e = .returned (.string T) ∧ Below w.heap.size w w'))
    (K34 : Hid (∀ w, IntsIn w.heap.size w a1 n1 zs → Calls Try.prog 34 #[fmtV f, .slice a1 n1 c1] w fun e w' => e = .returned (.string T) ∧ Below w.heap.size w w'))
    (K32 : Hid (∀ w, IntsIn w.heap.size w a1 n1 zs → Calls Try.prog 32 #[fmtV f, .slice a1 n1 c1] w fun e w' => ∃ v, e = .returned v ∧ w'.ownsRow w.heap.size 3 1 v n1 (vs.map (Value.int .i64)) ∧ Below w.heap.size w w'))
    (K33 : Hid (∀ w, IntsIn w.heap.size w a1 n1 zs → Calls Try.prog 33 #[fmtV f, .slice a1 n1 c1] w fun e w' => ∃ v, e = .returned v ∧ w'.ownsRow w.heap.size 3 1 v n1 (vs.map (Value.int .i64)) ∧ Below w.heap.size w w'))
    : Calls Try.prog 5 #[fmtV f, .slice a1 n1 c1, .int .i64 a, .int .i64 b, .string s] w fun e w' => e = .returned (.bool true) ∧ Below w.heap.size w w' := by
  have hn1 : (n1 : Int) ≤ 400 := by omega
  have hs1 : (s.size : Int) ≤ 1600 := by omega
  have F0 := hide (Blk.new w 23 (fmtC f))
  have B0 := hide ((Below.refl w.heap.size w).alloc (Nat.le_refl _) (.cells (fmtC f) 23))
  go_enter Try.func5, Try.ntmps5
  go_upto_region 1 with fail
  generalize w.alloc (.cells (fmtC f) 23) = w0 at *
  go_wp2_with fail
  refine (works23_any _).mono ?_
  rintro e w1 ⟨rfl, hb⟩
  have F1 := hide (F0.out.below hb)
  have B1 := hide (B0.out.trans (hb.mono B0.out.size))
  clear hb
  have f0 : w1.cell? ⟨w.heap.size, 0, none⟩ = some (.int .i64 f.bits) := F1.out.cell 0
  have f1 : w1.cell? ⟨w.heap.size, 1, none⟩ = some (.int .i64 f.depth) := F1.out.cell 1
  have f2 : w1.cell? ⟨w.heap.size, 2, none⟩ = some (.bool f.big) := F1.out.cell 2
  have f3 : w1.cell? ⟨w.heap.size, 3, none⟩ = some (.bool f.tru) := F1.out.cell 3
  have f4 : w1.cell? ⟨w.heap.size, 4, none⟩ = some (.int .i64 f.rm) := F1.out.cell 4
  have f5 : w1.cell? ⟨w.heap.size, 5, none⟩ = some (.int .i64 f.gm) := F1.out.cell 5
  have f6 : w1.cell? ⟨w.heap.size, 6, none⟩ = some (.int .i64 f.bm) := F1.out.cell 6
  have f7 : w1.cell? ⟨w.heap.size, 7, none⟩ = some (.int .i64 f.rs) := F1.out.cell 7
  have f8 : w1.cell? ⟨w.heap.size, 8, none⟩ = some (.int .i64 f.gs) := F1.out.cell 8
  have f9 : w1.cell? ⟨w.heap.size, 9, none⟩ = some (.int .i64 f.bs) := F1.out.cell 9
  go_wp2_with fail
  refine (K26.out _).mono ?_
  rintro e w2 ⟨a3, m3, c3, rfl, hp3, hm3, hb⟩
  have F2 := hide (F1.out.below hb)
  have B2 := hide (B1.out.trans (hb.mono B1.out.size))
  have P2 := hide hp3
  clear hp3
  clear hb
  clear f0 f1 f2 f3 f4 f5 f6 f7 f8 f9
  have f0 : w2.cell? ⟨w.heap.size, 0, none⟩ = some (.int .i64 f.bits) := F2.out.cell 0
  have f1 : w2.cell? ⟨w.heap.size, 1, none⟩ = some (.int .i64 f.depth) := F2.out.cell 1
  have f2 : w2.cell? ⟨w.heap.size, 2, none⟩ = some (.bool f.big) := F2.out.cell 2
  have f3 : w2.cell? ⟨w.heap.size, 3, none⟩ = some (.bool f.tru) := F2.out.cell 3
  have f4 : w2.cell? ⟨w.heap.size, 4, none⟩ = some (.int .i64 f.rm) := F2.out.cell 4
  have f5 : w2.cell? ⟨w.heap.size, 5, none⟩ = some (.int .i64 f.gm) := F2.out.cell 5
  have f6 : w2.cell? ⟨w.heap.size, 6, none⟩ = some (.int .i64 f.bm) := F2.out.cell 6
  have f7 : w2.cell? ⟨w.heap.size, 7, none⟩ = some (.int .i64 f.rs) := F2.out.cell 7
  have f8 : w2.cell? ⟨w.heap.size, 8, none⟩ = some (.int .i64 f.gs) := F2.out.cell 8
  have f9 : w2.cell? ⟨w.heap.size, 9, none⟩ = some (.int .i64 f.bs) := F2.out.cell 9
  go_wp2_with fail
  refine (K29.out _).mono ?_
  rintro e w3 ⟨a4, m4, c4, rfl, hp4, hm4, hb⟩
  have F3 := hide (F2.out.below hb)
  have B3 := hide (B2.out.trans (hb.mono B2.out.size))
  have P3 := hide (ints_keep P2.out hb)
  have Q3 := hide hp4
  clear hp4
  clear hb
  clear f0 f1 f2 f3 f4 f5 f6 f7 f8 f9
  go_wp2_with fail
  refine (row_any _ _ _ _ _ _ xs xs _ P3.out Q3.out hm3).mono ?_
  rintro e w4 ⟨rfl, hb⟩
  have F4 := hide (F3.out.below hb)
  have B4 := hide (B3.out.trans (hb.mono B3.out.size))
  clear hb
  go_wp2_with fail
  have F5 := hide (show Blk w.heap.size 23 (fmtC f) w4.drew from F4.out)
  have B5 := hide (show Below w.heap.size w w4.drew from B4.out.drew)
  refine plan_region [(0, true), (1, true), (2, true), (3, true), (4, true), (5, true), (6, true), (7, true), (8, true), (9, true), (10, true), (11, true), (12, true), (13, true), (14, true), (15, true), (17, true), (18, true), (19, true), (16, false), (20, false), (21, true), (22, true)] (fun w' => Blk w.heap.size 23 (fmtC f) w') [] rfl (by kernel_rfl) (fun _ _ d _ _ h => by cases d <;> exact h) ?_
  generalize w4.drew = w5 at *
  refine plan_v (i := 0) (N := (some 53)) (v := ?v9x0) (a' := ?b9x0) rfl rfl F5.out (by rfl) ?hy9x0 ?ha9x0 ?_
  case hy9x0 =>
    intro w' hS'
    go_simp
    with_reducible rfl
  case ha9x0 =>
    simp only [Act.put, List.setIfInBounds_toArray, List.set_cons_zero, List.set_cons_succ]
    rfl
  refine plan_v (i := 1) (N := (some 54)) (v := ?v9x1) (a' := ?b9x1) rfl rfl F5.out (by rfl) ?hy9x1 ?ha9x1 ?_
  case hy9x1 =>
    intro w' hS'
    go_simp
    with_reducible rfl
  case ha9x1 =>
    simp only [Act.put, List.setIfInBounds_toArray, List.set_cons_zero, List.set_cons_succ]
    rfl
  refine plan_v (i := 2) (N := (some 55)) (v := ?v9x2) (a' := ?b9x2) rfl rfl F5.out (by rfl) ?hy9x2 ?ha9x2 ?_
  case hy9x2 =>
    intro w' hS'
    go_simp
    with_reducible rfl
  case ha9x2 =>
    simp only [Act.put, List.setIfInBounds_toArray, List.set_cons_zero, List.set_cons_succ]
    rfl
  refine plan_v (i := 3) (N := (some 56)) (v := ?v9x3) (a' := ?b9x3) rfl rfl F5.out (by rfl) ?hy9x3 ?ha9x3 ?_
  case hy9x3 =>
    intro w' hS'
    go_simp
    with_reducible rfl
  case ha9x3 =>
    simp only [Act.put, List.setIfInBounds_toArray, List.set_cons_zero, List.set_cons_succ]
    rfl
  refine plan_v (i := 4) (N := (some 57)) (v := ?v9x4) (a' := ?b9x4) rfl rfl F5.out (by rfl) ?hy9x4 ?ha9x4 ?_
  case hy9x4 =>
    intro w' hS'
    go_simp
    with_reducible rfl
  case ha9x4 =>
    simp only [Act.put, List.setIfInBounds_toArray, List.set_cons_zero, List.set_cons_succ]
    rfl
  refine plan_v (i := 5) (N := (some 58)) (v := ?v9x5) (a' := ?b9x5) rfl rfl F5.out (by rfl) ?hy9x5 ?ha9x5 ?_
  case hy9x5 =>
    intro w' hS'
    go_simp
    with_reducible rfl
  case ha9x5 =>
    simp only [Act.put, List.setIfInBounds_toArray, List.set_cons_zero, List.set_cons_succ]
    rfl
  refine plan_v (i := 6) (N := (some 59)) (v := ?v9x6) (a' := ?b9x6) rfl rfl F5.out (by rfl) ?hy9x6 ?ha9x6 ?_
  case hy9x6 =>
    intro w' hS'
    go_simp
    with_reducible rfl
  case ha9x6 =>
    simp only [Act.put, List.setIfInBounds_toArray, List.set_cons_zero, List.set_cons_succ]
    rfl
  refine plan_v (i := 7) (N := (some 60)) (v := ?v9x7) (a' := ?b9x7) rfl rfl F5.out (by rfl) ?hy9x7 ?ha9x7 ?_
  case hy9x7 =>
    intro w' hS'
    go_simp
    with_reducible rfl
  case ha9x7 =>
    simp only [Act.put, List.setIfInBounds_toArray, List.set_cons_zero, List.set_cons_succ]
    rfl
  refine plan_v (i := 8) (N := (some 61)) (v := ?v9x8) (a' := ?b9x8) rfl rfl F5.out (by rfl) ?hy9x8 ?ha9x8 ?_
  case hy9x8 =>
    intro w' hS'
    go_simp
    with_reducible rfl
  case ha9x8 =>
    simp only [Act.put, List.setIfInBounds_toArray, List.set_cons_zero, List.set_cons_succ]
    rfl
  refine plan_v (i := 9) (N := (some 62)) (v := ?v9x9) (a' := ?b9x9) rfl rfl F5.out (by rfl) ?hy9x9 ?ha9x9 ?_
  case hy9x9 =>
    intro w' hS'
    go_simp
    with_reducible rfl
  case ha9x9 =>
    simp only [Act.put, List.setIfInBounds_toArray, List.set_cons_zero, List.set_cons_succ]
    rfl
  refine plan_v (i := 10) (N := (some 63)) (v := ?v9x10) (a' := ?b9x10) rfl rfl F5.out (by rfl) ?hy9x10 ?ha9x10 ?_
  case hy9x10 =>
    intro w' hS'
    go_simp
    with_reducible rfl
  case ha9x10 =>
    simp only [Act.put, List.setIfInBounds_toArray, List.set_cons_zero, List.set_cons_succ]
    rfl
  refine plan_v (i := 11) (N := (some 64)) (v := ?v9x11) (a' := ?b9x11) rfl rfl F5.out (by rfl) ?hy9x11 ?ha9x11 ?_
  case hy9x11 =>
    intro w' hS'
    go_simp
    with_reducible rfl
  case ha9x11 =>
    simp only [Act.put, List.setIfInBounds_toArray, List.set_cons_zero, List.set_cons_succ]
    rfl
  refine plan_v (i := 12) (N := (some 65)) (v := ?v9x12) (a' := ?b9x12) rfl rfl F5.out (by rfl) ?hy9x12 ?ha9x12 ?_
  case hy9x12 =>
    intro w' hS'
    go_simp
    with_reducible rfl
  case ha9x12 =>
    simp only [Act.put, List.setIfInBounds_toArray, List.set_cons_zero, List.set_cons_succ]
    rfl
  refine plan_v (i := 13) (N := (some 66)) (v := ?v9x13) (a' := ?b9x13) rfl rfl F5.out (by rfl) ?hy9x13 ?ha9x13 ?_
  case hy9x13 =>
    intro w' hS'
    have f0 : w'.cell? ⟨w.heap.size, 0, none⟩ = some (.int .i64 f.bits) := hS'.cell 0
    have f1 : w'.cell? ⟨w.heap.size, 1, none⟩ = some (.int .i64 f.depth) := hS'.cell 1
    have f2 : w'.cell? ⟨w.heap.size, 2, none⟩ = some (.bool f.big) := hS'.cell 2
    have f3 : w'.cell? ⟨w.heap.size, 3, none⟩ = some (.bool f.tru) := hS'.cell 3
    have f4 : w'.cell? ⟨w.heap.size, 4, none⟩ = some (.int .i64 f.rm) := hS'.cell 4
    have f5 : w'.cell? ⟨w.heap.size, 5, none⟩ = some (.int .i64 f.gm) := hS'.cell 5
    have f6 : w'.cell? ⟨w.heap.size, 6, none⟩ = some (.int .i64 f.bm) := hS'.cell 6
    have f7 : w'.cell? ⟨w.heap.size, 7, none⟩ = some (.int .i64 f.rs) := hS'.cell 7
    have f8 : w'.cell? ⟨w.heap.size, 8, none⟩ = some (.int .i64 f.gs) := hS'.cell 8
    have f9 : w'.cell? ⟨w.heap.size, 9, none⟩ = some (.int .i64 f.bs) := hS'.cell 9
    go_simp
    with_reducible rfl
  case ha9x13 =>
    simp only [Act.put, List.setIfInBounds_toArray, List.set_cons_zero, List.set_cons_succ]
    rfl
  refine plan_v (i := 14) (N := (some 67)) (v := ?v9x14) (a' := ?b9x14) rfl rfl F5.out (by rfl) ?hy9x14 ?ha9x14 ?_
  case hy9x14 =>
    intro w' hS'
    go_simp
    with_reducible rfl
  case ha9x14 =>
    simp only [Act.put, List.setIfInBounds_toArray, List.set_cons_zero, List.set_cons_succ]
    rfl
  refine plan_v (i := 15) (N := (some 68)) (v := ?v9x15) (a' := ?b9x15) rfl rfl F5.out (by rfl) ?hy9x15 ?ha9x15 ?_
  case hy9x15 =>
    intro w' hS'
    go_simp
    with_reducible rfl
  case ha9x15 =>
    simp only [Act.put, List.setIfInBounds_toArray, List.set_cons_zero, List.set_cons_succ]
    rfl
  refine plan_v (i := 17) (N := (some 70)) (v := ?v9x17) (a' := ?b9x17) rfl rfl F5.out (by rfl) ?hy9x17 ?ha9x17 ?_
  case hy9x17 =>
    intro w' hS'
    have f0 : w'.cell? ⟨w.heap.size, 0, none⟩ = some (.int .i64 f.bits) := hS'.cell 0
    have f1 : w'.cell? ⟨w.heap.size, 1, none⟩ = some (.int .i64 f.depth) := hS'.cell 1
    have f2 : w'.cell? ⟨w.heap.size, 2, none⟩ = some (.bool f.big) := hS'.cell 2
    have f3 : w'.cell? ⟨w.heap.size, 3, none⟩ = some (.bool f.tru) := hS'.cell 3
    have f4 : w'.cell? ⟨w.heap.size, 4, none⟩ = some (.int .i64 f.rm) := hS'.cell 4
    have f5 : w'.cell? ⟨w.heap.size, 5, none⟩ = some (.int .i64 f.gm) := hS'.cell 5
    have f6 : w'.cell? ⟨w.heap.size, 6, none⟩ = some (.int .i64 f.bm) := hS'.cell 6
    have f7 : w'.cell? ⟨w.heap.size, 7, none⟩ = some (.int .i64 f.rs) := hS'.cell 7
    have f8 : w'.cell? ⟨w.heap.size, 8, none⟩ = some (.int .i64 f.gs) := hS'.cell 8
    have f9 : w'.cell? ⟨w.heap.size, 9, none⟩ = some (.int .i64 f.bs) := hS'.cell 9
    go_simp
    with_reducible rfl
  case ha9x17 =>
    simp only [Act.put, List.setIfInBounds_toArray, List.set_cons_zero, List.set_cons_succ]
    rfl
  refine plan_v (i := 18) (N := (some 71)) (v := ?v9x18) (a' := ?b9x18) rfl rfl F5.out (by rfl) ?hy9x18 ?ha9x18 ?_
  case hy9x18 =>
    intro w' hS'
    go_simp
    with_reducible rfl
  case ha9x18 =>
    simp only [Act.put, List.setIfInBounds_toArray, List.set_cons_zero, List.set_cons_succ]
    rfl
  refine plan_v (i := 19) (N := (some 72)) (v := ?v9x19) (a' := ?b9x19) rfl rfl F5.out (by rfl) ?hy9x19 ?ha9x19 ?_
  case hy9x19 =>
    intro w' hS'
    go_simp
    with_reducible rfl
  case ha9x19 =>
    simp only [Act.put, List.setIfInBounds_toArray, List.set_cons_zero, List.set_cons_succ]
    rfl
  refine plan_e (i := 16) rfl (by rfl) (fun K hK => ?_)
  go_simp
  refine (K24.out _).mono ?_
  rintro e w6 ⟨rfl, hb⟩
  have F6 := hide (F5.out.below hb)
  have B6 := hide (B5.out.trans (hb.mono B5.out.size))
  clear hb
  refine hK _ _ (fun _ => F6.out) ?_
  clear hK K
  refine plan_e (i := 20) rfl (by rfl) (fun K hK => ?_)
  go_simp
  refine (K31.out _).mono ?_
  rintro e w7 ⟨rfl, hb⟩
  have F7 := hide (F6.out.below hb)
  have B7 := hide (B6.out.trans (hb.mono B6.out.size))
  clear hb
  refine hK _ _ (fun _ => F7.out) ?_
  clear hK K
  refine plan_v (i := 21) (N := (some 74)) (v := ?v9x21) (a' := ?b9x21) rfl rfl F7.out (by rfl) ?hy9x21 ?ha9x21 ?_
  case hy9x21 =>
    intro w' hS'
    go_simp
    with_reducible rfl
  case ha9x21 =>
    simp only [Act.put, List.setIfInBounds_toArray, List.set_cons_zero, List.set_cons_succ]
    rfl
  refine plan_v (i := 22) (N := (some 75)) (v := ?v9x22) (a' := ?b9x22) rfl rfl F7.out (by rfl) ?hy9x22 ?ha9x22 ?_
  case hy9x22 =>
    intro w' hS'
    go_simp
    with_reducible rfl
  case ha9x22 =>
    simp only [Act.put, List.setIfInBounds_toArray, List.set_cons_zero, List.set_cons_succ]
    rfl
  refine plan_done ?_
  have f0 : w7.cell? ⟨w.heap.size, 0, none⟩ = some (.int .i64 f.bits) := F7.out.cell 0
  have f1 : w7.cell? ⟨w.heap.size, 1, none⟩ = some (.int .i64 f.depth) := F7.out.cell 1
  have f2 : w7.cell? ⟨w.heap.size, 2, none⟩ = some (.bool f.big) := F7.out.cell 2
  have f3 : w7.cell? ⟨w.heap.size, 3, none⟩ = some (.bool f.tru) := F7.out.cell 3
  have f4 : w7.cell? ⟨w.heap.size, 4, none⟩ = some (.int .i64 f.rm) := F7.out.cell 4
  have f5 : w7.cell? ⟨w.heap.size, 5, none⟩ = some (.int .i64 f.gm) := F7.out.cell 5
  have f6 : w7.cell? ⟨w.heap.size, 6, none⟩ = some (.int .i64 f.bm) := F7.out.cell 6
  have f7 : w7.cell? ⟨w.heap.size, 7, none⟩ = some (.int .i64 f.rs) := F7.out.cell 7
  have f8 : w7.cell? ⟨w.heap.size, 8, none⟩ = some (.int .i64 f.gs) := F7.out.cell 8
  have f9 : w7.cell? ⟨w.heap.size, 9, none⟩ = some (.int .i64 f.bs) := F7.out.cell 9
  go_wp2_with fail
  refine (K17.out _).mono ?_
  rintro e w8 ⟨rfl, hb⟩
  have F8 := hide (F7.out.below hb)
  have B8 := hide (B7.out.trans (hb.mono B7.out.size))
  clear hb
  clear f0 f1 f2 f3 f4 f5 f6 f7 f8 f9
  go_wp2_with fail
  have F9 := hide (show Blk w.heap.size 23 (fmtC f) w8.drew from F8.out)
  have B9 := hide (show Below w.heap.size w w8.drew from B8.out.drew)
  refine plan_region [(0, true), (1, true), (3, true), (4, true), (2, false), (5, false), (6, false), (7, true)] (fun w' => Blk w.heap.size 23 (fmtC f) w') [] rfl (by kernel_rfl) (fun _ _ d _ _ h => by cases d <;> exact h) ?_
  generalize w8.drew = w9 at *
  refine plan_v (i := 0) (N := (some 86)) (v := ?v13x0) (a' := ?b13x0) rfl rfl F9.out (by rfl) ?hy13x0 ?ha13x0 ?_
  case hy13x0 =>
    intro w' hS'
    have f0 : w'.cell? ⟨w.heap.size, 0, none⟩ = some (.int .i64 f.bits) := hS'.cell 0
    have f1 : w'.cell? ⟨w.heap.size, 1, none⟩ = some (.int .i64 f.depth) := hS'.cell 1
    have f2 : w'.cell? ⟨w.heap.size, 2, none⟩ = some (.bool f.big) := hS'.cell 2
    have f3 : w'.cell? ⟨w.heap.size, 3, none⟩ = some (.bool f.tru) := hS'.cell 3
    have f4 : w'.cell? ⟨w.heap.size, 4, none⟩ = some (.int .i64 f.rm) := hS'.cell 4
    have f5 : w'.cell? ⟨w.heap.size, 5, none⟩ = some (.int .i64 f.gm) := hS'.cell 5
    have f6 : w'.cell? ⟨w.heap.size, 6, none⟩ = some (.int .i64 f.bm) := hS'.cell 6
    have f7 : w'.cell? ⟨w.heap.size, 7, none⟩ = some (.int .i64 f.rs) := hS'.cell 7
    have f8 : w'.cell? ⟨w.heap.size, 8, none⟩ = some (.int .i64 f.gs) := hS'.cell 8
    have f9 : w'.cell? ⟨w.heap.size, 9, none⟩ = some (.int .i64 f.bs) := hS'.cell 9
    go_simp
    with_reducible rfl
  case ha13x0 =>
    simp only [Act.put, List.setIfInBounds_toArray, List.set_cons_zero, List.set_cons_succ]
    rfl
  refine plan_v (i := 1) (N := (some 87)) (v := ?v13x1) (a' := ?b13x1) rfl rfl F9.out (by rfl) ?hy13x1 ?ha13x1 ?_
  case hy13x1 =>
    intro w' hS'
    go_simp
    with_reducible rfl
  case ha13x1 =>
    simp only [Act.put, List.setIfInBounds_toArray, List.set_cons_zero, List.set_cons_succ]
    rfl
  refine plan_v (i := 3) (N := (some 89)) (v := ?v13x3) (a' := ?b13x3) rfl rfl F9.out (by rfl) ?hy13x3 ?ha13x3 ?_
  case hy13x3 =>
    intro w' hS'
    have f0 : w'.cell? ⟨w.heap.size, 0, none⟩ = some (.int .i64 f.bits) := hS'.cell 0
    have f1 : w'.cell? ⟨w.heap.size, 1, none⟩ = some (.int .i64 f.depth) := hS'.cell 1
    have f2 : w'.cell? ⟨w.heap.size, 2, none⟩ = some (.bool f.big) := hS'.cell 2
    have f3 : w'.cell? ⟨w.heap.size, 3, none⟩ = some (.bool f.tru) := hS'.cell 3
    have f4 : w'.cell? ⟨w.heap.size, 4, none⟩ = some (.int .i64 f.rm) := hS'.cell 4
    have f5 : w'.cell? ⟨w.heap.size, 5, none⟩ = some (.int .i64 f.gm) := hS'.cell 5
    have f6 : w'.cell? ⟨w.heap.size, 6, none⟩ = some (.int .i64 f.bm) := hS'.cell 6
    have f7 : w'.cell? ⟨w.heap.size, 7, none⟩ = some (.int .i64 f.rs) := hS'.cell 7
    have f8 : w'.cell? ⟨w.heap.size, 8, none⟩ = some (.int .i64 f.gs) := hS'.cell 8
    have f9 : w'.cell? ⟨w.heap.size, 9, none⟩ = some (.int .i64 f.bs) := hS'.cell 9
    go_simp
    with_reducible rfl
  case ha13x3 =>
    simp only [Act.put, List.setIfInBounds_toArray, List.set_cons_zero, List.set_cons_succ]
    rfl
  refine plan_v (i := 4) (N := (some 90)) (v := ?v13x4) (a' := ?b13x4) rfl rfl F9.out (by rfl) ?hy13x4 ?ha13x4 ?_
  case hy13x4 =>
    intro w' hS'
    go_simp
    with_reducible rfl
  case ha13x4 =>
    simp only [Act.put, List.setIfInBounds_toArray, List.set_cons_zero, List.set_cons_succ]
    rfl
  refine plan_e (i := 2) rfl (by rfl) (fun K hK => ?_)
  go_simp
  refine (K32.out _ (intsIn_mono (hI.out.below B9.out) B9.out.size)).mono ?_
  rintro e w10 ⟨v9, rfl, ho9, hb⟩
  have F10 := hide (F9.out.below hb)
  have B10 := hide (B9.out.trans (hb.mono B9.out.size))
  obtain ⟨a9, c9, rfl⟩ := own_slice ho9
  have X10 := hide (own_ints ho9)
  clear ho9
  clear hb
  refine hK _ _ (fun _ => F10.out) ?_
  clear hK K
  refine plan_e (i := 5) rfl (by rfl) (fun K hK => ?_)
  go_simp
  refine (K33.out _ (intsIn_mono (hI.out.below B10.out) B10.out.size)).mono ?_
  rintro e w11 ⟨v10, rfl, ho10, hb⟩
  have F11 := hide (F10.out.below hb)
  have B11 := hide (B10.out.trans (hb.mono B10.out.size))
  obtain ⟨a10, c10, rfl⟩ := own_slice ho10
  have Z11 := hide (own_ints ho10)
  have X11 := hide (ints_keep X10.out hb)
  clear ho10
  clear hb
  refine hK _ _ (fun _ => F11.out) ?_
  clear hK K
  refine plan_e (i := 6) rfl (by rfl) (fun K hK => ?_)
  go_simp
  refine (row_any _ _ _ _ _ _ vs vs _ X11.out Z11.out (by omega)).mono ?_
  rintro e w12 ⟨rfl, hb⟩
  have F12 := hide (F11.out.below hb)
  have B12 := hide (B11.out.trans (hb.mono B11.out.size))
  clear hb
  refine hK _ _ (fun _ => F12.out) ?_
  clear hK K
  refine plan_v (i := 7) (N := (some 19)) (v := ?v13x7) (a' := ?b13x7) rfl rfl F12.out (by rfl) ?hy13x7 ?ha13x7 ?_
  case hy13x7 =>
    intro w' hS'
    go_simp
    with_reducible rfl
  case ha13x7 =>
    simp only [Act.put, List.setIfInBounds_toArray, List.set_cons_zero, List.set_cons_succ]
    rfl
  refine plan_done ?_
  go_wp2_with fail
  have F13 := hide (show Blk w.heap.size 23 (fmtC f) w12.drew from F12.out)
  have B13 := hide (show Below w.heap.size w w12.drew from B12.out.drew)
  refine plan_region [(0, true), (1, true), (2, true), (3, true), (4, true), (5, true), (6, true), (8, true), (9, true), (7, false), (10, false), (11, true), (12, true), (13, true)] (fun w' => Blk w.heap.size 23 (fmtC f) w') [] rfl (by kernel_rfl) (fun _ _ d _ _ h => by cases d <;> exact h) ?_
  generalize w12.drew = w13 at *
  refine plan_v (i := 0) (N := (some 93)) (v := ?v14x0) (a' := ?b14x0) rfl rfl F13.out (by rfl) ?hy14x0 ?ha14x0 ?_
  case hy14x0 =>
    intro w' hS'
    go_simp
    with_reducible rfl
  case ha14x0 =>
    simp only [Act.put, List.setIfInBounds_toArray, List.set_cons_zero, List.set_cons_succ]
    rfl
  refine plan_v (i := 1) (N := (some 94)) (v := ?v14x1) (a' := ?b14x1) rfl rfl F13.out (by rfl) ?hy14x1 ?ha14x1 ?_
  case hy14x1 =>
    intro w' hS'
    go_simp
    with_reducible rfl
  case ha14x1 =>
    simp only [Act.put, List.setIfInBounds_toArray, List.set_cons_zero, List.set_cons_succ]
    rfl
  refine plan_v (i := 2) (N := (some 95)) (v := ?v14x2) (a' := ?b14x2) rfl rfl F13.out (by rfl) ?hy14x2 ?ha14x2 ?_
  case hy14x2 =>
    intro w' hS'
    go_simp
    with_reducible rfl
  case ha14x2 =>
    simp only [Act.put, List.setIfInBounds_toArray, List.set_cons_zero, List.set_cons_succ]
    rfl
  refine plan_v (i := 3) (N := (some 96)) (v := ?v14x3) (a' := ?b14x3) rfl rfl F13.out (by rfl) ?hy14x3 ?ha14x3 ?_
  case hy14x3 =>
    intro w' hS'
    go_simp
    with_reducible rfl
  case ha14x3 =>
    simp only [Act.put, List.setIfInBounds_toArray, List.set_cons_zero, List.set_cons_succ]
    rfl
  refine plan_v (i := 4) (N := (some 97)) (v := ?v14x4) (a' := ?b14x4) rfl rfl F13.out (by rfl) ?hy14x4 ?ha14x4 ?_
  case hy14x4 =>
    intro w' hS'
    go_simp
    with_reducible rfl
  case ha14x4 =>
    simp only [Act.put, List.setIfInBounds_toArray, List.set_cons_zero, List.set_cons_succ]
    rfl
  refine plan_v (i := 5) (N := (some 98)) (v := ?v14x5) (a' := ?b14x5) rfl rfl F13.out (by rfl) ?hy14x5 ?ha14x5 ?_
  case hy14x5 =>
    intro w' hS'
    have f0 : w'.cell? ⟨w.heap.size, 0, none⟩ = some (.int .i64 f.bits) := hS'.cell 0
    have f1 : w'.cell? ⟨w.heap.size, 1, none⟩ = some (.int .i64 f.depth) := hS'.cell 1
    have f2 : w'.cell? ⟨w.heap.size, 2, none⟩ = some (.bool f.big) := hS'.cell 2
    have f3 : w'.cell? ⟨w.heap.size, 3, none⟩ = some (.bool f.tru) := hS'.cell 3
    have f4 : w'.cell? ⟨w.heap.size, 4, none⟩ = some (.int .i64 f.rm) := hS'.cell 4
    have f5 : w'.cell? ⟨w.heap.size, 5, none⟩ = some (.int .i64 f.gm) := hS'.cell 5
    have f6 : w'.cell? ⟨w.heap.size, 6, none⟩ = some (.int .i64 f.bm) := hS'.cell 6
    have f7 : w'.cell? ⟨w.heap.size, 7, none⟩ = some (.int .i64 f.rs) := hS'.cell 7
    have f8 : w'.cell? ⟨w.heap.size, 8, none⟩ = some (.int .i64 f.gs) := hS'.cell 8
    have f9 : w'.cell? ⟨w.heap.size, 9, none⟩ = some (.int .i64 f.bs) := hS'.cell 9
    go_simp
    with_reducible rfl
  case ha14x5 =>
    simp only [Act.put, List.setIfInBounds_toArray, List.set_cons_zero, List.set_cons_succ]
    rfl
  refine plan_v (i := 6) (N := (some 99)) (v := ?v14x6) (a' := ?b14x6) rfl rfl F13.out (by rfl) ?hy14x6 ?ha14x6 ?_
  case hy14x6 =>
    intro w' hS'
    go_simp
    with_reducible rfl
  case ha14x6 =>
    simp only [Act.put, List.setIfInBounds_toArray, List.set_cons_zero, List.set_cons_succ]
    rfl
  refine plan_v (i := 8) (N := (some 101)) (v := ?v14x8) (a' := ?b14x8) rfl rfl F13.out (by rfl) ?hy14x8 ?ha14x8 ?_
  case hy14x8 =>
    intro w' hS'
    have f0 : w'.cell? ⟨w.heap.size, 0, none⟩ = some (.int .i64 f.bits) := hS'.cell 0
    have f1 : w'.cell? ⟨w.heap.size, 1, none⟩ = some (.int .i64 f.depth) := hS'.cell 1
    have f2 : w'.cell? ⟨w.heap.size, 2, none⟩ = some (.bool f.big) := hS'.cell 2
    have f3 : w'.cell? ⟨w.heap.size, 3, none⟩ = some (.bool f.tru) := hS'.cell 3
    have f4 : w'.cell? ⟨w.heap.size, 4, none⟩ = some (.int .i64 f.rm) := hS'.cell 4
    have f5 : w'.cell? ⟨w.heap.size, 5, none⟩ = some (.int .i64 f.gm) := hS'.cell 5
    have f6 : w'.cell? ⟨w.heap.size, 6, none⟩ = some (.int .i64 f.bm) := hS'.cell 6
    have f7 : w'.cell? ⟨w.heap.size, 7, none⟩ = some (.int .i64 f.rs) := hS'.cell 7
    have f8 : w'.cell? ⟨w.heap.size, 8, none⟩ = some (.int .i64 f.gs) := hS'.cell 8
    have f9 : w'.cell? ⟨w.heap.size, 9, none⟩ = some (.int .i64 f.bs) := hS'.cell 9
    go_simp
    with_reducible rfl
  case ha14x8 =>
    simp only [Act.put, List.setIfInBounds_toArray, List.set_cons_zero, List.set_cons_succ]
    rfl
  refine plan_v (i := 9) (N := (some 102)) (v := ?v14x9) (a' := ?b14x9) rfl rfl F13.out (by rfl) ?hy14x9 ?ha14x9 ?_
  case hy14x9 =>
    intro w' hS'
    go_simp
    with_reducible rfl
  case ha14x9 =>
    simp only [Act.put, List.setIfInBounds_toArray, List.set_cons_zero, List.set_cons_succ]
    rfl
  refine plan_e (i := 7) rfl (by rfl) (fun K hK => ?_)
  go_simp
  refine (K25.out _ (intsIn_mono (hI.out.below B13.out) B13.out.size)).mono ?_
  rintro e w14 ⟨rfl, hb⟩
  have F14 := hide (F13.out.below hb)
  have B14 := hide (B13.out.trans (hb.mono B13.out.size))
  clear hb
  refine hK _ _ (fun _ => F14.out) ?_
  clear hK K
  refine plan_e (i := 10) rfl (by rfl) (fun K hK => ?_)
  go_simp
  refine (K34.out _ (intsIn_mono (hI.out.below B14.out) B14.out.size)).mono ?_
  rintro e w15 ⟨rfl, hb⟩
  have F15 := hide (F14.out.below hb)
  have B15 := hide (B14.out.trans (hb.mono B14.out.size))
  clear hb
  refine hK _ _ (fun _ => F15.out) ?_
  clear hK K
  refine plan_v (i := 11) (N := (some 104)) (v := ?v14x11) (a' := ?b14x11) rfl rfl F15.out (by rfl) ?hy14x11 ?ha14x11 ?_
  case hy14x11 =>
    intro w' hS'
    go_simp
    with_reducible rfl
  case ha14x11 =>
    simp only [Act.put, List.setIfInBounds_toArray, List.set_cons_zero, List.set_cons_succ]
    rfl
  refine plan_v (i := 12) (N := (some 105)) (v := ?v14x12) (a' := ?b14x12) rfl rfl F15.out (by rfl) ?hy14x12 ?ha14x12 ?_
  case hy14x12 =>
    intro w' hS'
    go_simp
    with_reducible rfl
  case ha14x12 =>
    simp only [Act.put, List.setIfInBounds_toArray, List.set_cons_zero, List.set_cons_succ]
    rfl
  refine plan_v (i := 13) (N := (some 10)) (v := ?v14x13) (a' := ?b14x13) rfl rfl F15.out (by rfl) ?hy14x13 ?ha14x13 ?_
  case hy14x13 =>
    intro w' hS'
    go_simp
    with_reducible rfl
  case ha14x13 =>
    simp only [Act.put, List.setIfInBounds_toArray, List.set_cons_zero, List.set_cons_succ]
    rfl
  refine plan_done ?_
  go_wp2_with fail
  go_ret
  exact ⟨rfl, B15.out⟩

set_option maxHeartbeats 6400000 in
set_option maxRecDepth 100000 in
theorem law5_l1 (f : Fmt) (a1 : Option Addr) (n1 c1 : Nat) (a b : Int) (s : ByteArray) (w : World) (h : 400 < n1) :
    Calls Try.prog 5 #[fmtV f, .slice a1 n1 c1, .int .i64 a, .int .i64 b, .string s] w fun e w' => e = .returned (.bool true) ∧ Below w.heap.size w w' := by
  have h1 : (400 : Int) < n1 := by omega
  have B0 := hide ((Below.refl w.heap.size w).alloc (Nat.le_refl _) (.cells (fmtC f) 23))
  go_enter Try.func5, Try.ntmps5
  go_upto_region 1 with fail
  generalize w.alloc (.cells (fmtC f) 23) = w0 at *
  go_wp2_with fail
  refine (works23_any _).mono ?_
  rintro e w1 ⟨rfl, hb⟩
  have B1 := hide (B0.out.trans (hb.mono B0.out.size))
  clear hb
  go_wp2_with fail
  go_ret
  exact ⟨rfl, B1.out⟩

set_option maxHeartbeats 6400000 in
set_option maxRecDepth 100000 in
theorem law5_l2 (f : Fmt) (a1 : Option Addr) (n1 c1 : Nat) (a b : Int) (s : ByteArray) (w : World) (h : n1 ≤ 400) (h2 : 1600 < s.size) :
    Calls Try.prog 5 #[fmtV f, .slice a1 n1 c1, .int .i64 a, .int .i64 b, .string s] w fun e w' => e = .returned (.bool true) ∧ Below w.heap.size w w' := by
  have h3 : (n1 : Int) ≤ 400 := by omega
  have h4 : (1600 : Int) < s.size := by omega
  have B0 := hide ((Below.refl w.heap.size w).alloc (Nat.le_refl _) (.cells (fmtC f) 23))
  go_enter Try.func5, Try.ntmps5
  go_upto_region 1 with fail
  generalize w.alloc (.cells (fmtC f) 23) = w0 at *
  go_wp2_with fail
  refine (works23_any _).mono ?_
  rintro e w1 ⟨rfl, hb⟩
  have B1 := hide (B0.out.trans (hb.mono B0.out.size))
  clear hb
  go_wp2_with fail
  go_ret
  exact ⟨rfl, B1.out⟩

/-- What both RawOf tell. -/
theorem rawOf_all (f : Fmt) (a b : Int) (s : ByteArray) (hf : f.fit) (hs : s.size ≤ 1600) : ∃ (xs : List Int) (N E : Int),
    (∀ w, Calls Try.prog 26 #[fmtV f, .int .i64 a, .int .i64 b, .string s] w fun e w' => ∃ a n c, e = .returned (.tuple #[.slice a n c, .int .i64 N, .int .i64 E]) ∧ IntsIn w'.heap.size w' a n xs ∧ n ≤ 9223372036854775807 ∧ Below w.heap.size w w') ∧
    (∀ w, Calls Try.prog 29 #[fmtV f, .int .i64 a, .int .i64 b, .string s] w fun e w' => ∃ a n c, e = .returned (.tuple #[.slice a n c, .int .i64 N, .int .i64 E]) ∧ IntsIn w'.heap.size w' a n xs ∧ n ≤ 9223372036854775807 ∧ Below w.heap.size w w') := by
  have none : ∀ (k : FuncId) (N E : Int) (w : World), Calls Try.prog k #[fmtV f, .int .i64 a, .int .i64 b, .string s] w (fun e w' => e = .returned (.tuple #[.slice none 0 0, .int .i64 N, .int .i64 E]) ∧ Below w.heap.size w w') →
      Calls Try.prog k #[fmtV f, .int .i64 a, .int .i64 b, .string s] w fun e w' => ∃ a n c, e = .returned (.tuple #[.slice a n c, .int .i64 N, .int .i64 E]) ∧ IntsIn w'.heap.size w' a n [] ∧ n ≤ 9223372036854775807 ∧ Below w.heap.size w w' :=
    fun k N E w h => h.mono fun e w' ⟨he, hb⟩ => ⟨none, 0, 0, he, ⟨rfl, .inl rfl⟩, by decide, hb⟩
  cases h : fitsB f a b with
  | false =>
    have K24 := fun w => fits_any f a b w hf
    have K31 := fun w => rfits_any f a b w
    rw [h] at K24 K31
    exact ⟨[], 0, 1, fun w => none _ _ _ w (rawOf_no f a b s w K24), fun w => none _ _ _ w (rrawOf_no f a b s w K31)⟩
  | true =>
    obtain ⟨hv, ha, hb⟩ := fits_parts h
    obtain ⟨m, hm, hl⟩ := area ha hb
    by_cases hs2 : m * sizeN f ≤ s.size
    · have some : ∀ (k : FuncId) (N E : Int) (w : World), Calls Try.prog k #[fmtV f, .int .i64 a, .int .i64 b, .string s] w (fun e w' => ∃ v, e = .returned (.tuple #[v, .int .i64 N, .int .i64 E]) ∧ w'.ownsRow w.heap.size 3 1 v m ((pixL f s m).map (Value.int .i64)) ∧ Below w.heap.size w w') →
          Calls Try.prog k #[fmtV f, .int .i64 a, .int .i64 b, .string s] w fun e w' => ∃ a n c, e = .returned (.tuple #[.slice a n c, .int .i64 N, .int .i64 E]) ∧ IntsIn w'.heap.size w' a n (pixL f s m) ∧ n ≤ 9223372036854775807 ∧ Below w.heap.size w w' :=
        fun k N E w h => h.mono fun e w' ⟨v, he, ho, hb⟩ => by
          obtain ⟨a, c, rfl⟩ := own_slice ho
          exact ⟨a, m, c, he, own_ints ho, by omega, hb⟩
      exact ⟨pixL f s m, _, _, fun w => some _ _ _ w (rawOf_yes f a b m s w hf h hm hs2 (by omega)), fun w => some _ _ _ w (rrawOf_yes f a b m s w h hm hs2 (by omega))⟩
    · have K24 := fun w => fits_any f a b w hf
      have K31 := fun w => rfits_any f a b w
      rw [h] at K24 K31
      obtain ⟨h1, h2, h3⟩ := bits_bd hv
      have hml : m * sizeN f ≤ 67108864 := Nat.le_trans (Nat.mul_le_mul hl (size_le f)) (by decide)
      exact ⟨[], 0, 2, fun w => none _ _ _ w (rawOf_short f a b m (sizeN f) (m * sizeN f) s w hm (by omega) (by simp) (by omega) (by omega) (by omega) K24 (fun w => size_any f w hf)),
        fun w => none _ _ _ w (rrawOf_short f a b m (sizeN f) (m * sizeN f) s w hm (by omega) (by simp) (by omega) h1 h2 h3 (by omega) K31)⟩

/-- miradorlaw16.PlainRaws. -/
theorem law5_any (f : Fmt) (a1 : Option Addr) (n1 c1 : Nat) (zs : List Int) (a b : Int) (s : ByteArray) (w : World) (hf : f.fit) (hI : IntsIn w.heap.size w a1 n1 zs) :
    Calls Try.prog 5 #[fmtV f, .slice a1 n1 c1, .int .i64 a, .int .i64 b, .string s] w fun e w' => e = .returned (.bool true) ∧ Below w.heap.size w w' := by
  by_cases h1 : n1 ≤ 400
  · by_cases h2 : s.size ≤ 1600
    · obtain ⟨xs, N, E, K26, K29⟩ := rawOf_all f a b s hf h2
      have K17 := fun w => valid_fit f w hf
      have K25 := fun w h => raw_any f a1 n1 c1 zs w hf (by omega) h
      cases hv : validB f with
      | false =>
        rw [hv] at K17
        rw [raw_none hv zs] at K25
        exact law5_no f a1 n1 c1 zs xs a b N E _ s w h1 h2 hI K26 K29 (fun w => fits_any f a b w hf) (fun w => rfits_any f a b w) K17 K25
      | true =>
        rw [hv] at K17
        have ea : zs.map (valA f) = zs.map (valV f) := List.map_congr_left fun c _ => by simp [valA, hv]
        have K32 := fun w h => vals_any f a1 n1 c1 zs w hf (by omega) h
        rw [ea] at K32
        exact law5_yes f a1 n1 c1 zs xs _ a b N E _ _ s w h1 h2 hI K26 K29 (fun w => fits_any f a b w hf) (fun w => rfits_any f a b w) K17 K25 (fun w h => rraw_any f a1 n1 c1 zs w hv (by omega) h) K32 (fun w h => rvals_any f a1 n1 c1 zs w hv (by omega) h)
    · exact law5_l2 f a1 n1 c1 a b s w h1 (by omega)
  · exact law5_l1 f a1 n1 c1 a b s w (by omega)

end Go.Proofs.Ytodlpofpeoiedaa
