/-
  PlainGlue: the walk.
-/
import Derived.Test.YtodlpofpeoiedaaML
namespace Go.Proofs.Ytodlpofpeoiedaa
open Go.RowKit Go.Sort

set_option maxHeartbeats 6400000 in
set_option maxRecDepth 100000 in
theorem law6_small (f : Fmt) (a1 a2 : Option Addr) (n1 n2 c1 c2 k P Q : Nat) (xs ys vs qs : List Int) (A B : ByteArray) (w : World) (h1 : n1 ≤ 400) (h2 : n2 ≤ 400) (hP : P ≤ 1600) (hQ : Q ≤ 1600)
    (hI1 : Hid (IntsIn w.heap.size w a1 n1 xs)) (hI2 : Hid (IntsIn w.heap.size w a2 n2 ys)) (hc1 : Hid (a1 = none → c1 = 0)) (hc2 : Hid (a2 = none → c2 = 0)) (hA : A.size = P) (hB : B.size = Q) (hN : ((n1 : Int) + (n2 : Int)) * (k : Int) = (P : Int) + (Q : Int))
    (q1 : f.rm ≤ 255) (q2 : f.gm ≤ 255) (q3 : f.bm ≤ 255)
    (K17 : Hid (∀ w, Calls Try.prog 17 #[fmtV f] w fun e w' => e = .returned (.bool true) ∧ Below w.heap.size w w'))
    (K27 : Hid (∀ w, Calls Try.prog 27 #[fmtV f] w fun e w' => e = .returned (.int .i64 k) ∧ Below w.heap.size w w'))
    (K35 : Hid (∀ a c w, IntsIn w.heap.size w a (n1 + n2) (xs ++ ys) → Calls Try.prog 35 #[fmtV f, .slice a (n1 + n2) c] w fun e w' => ∃ v, e = .returned v ∧ w'.ownsRow w.heap.size 3 1 v (n1 + n2) (qs.map (Value.int .i64)) ∧ Below w.heap.size w w'))
    (K32 : Hid (∀ a c w, IntsIn w.heap.size w a (n1 + n2) (xs ++ ys) → Calls Try.prog 32 #[fmtV f, .slice a (n1 + n2) c] w fun e w' => ∃ v, e = .returned v ∧ w'.ownsRow w.heap.size 3 1 v (n1 + n2) (vs.map (Value.int .i64)) ∧ Below w.heap.size w w'))
    (K25a : Hid (∀ w, IntsIn w.heap.size w a1 n1 xs → Calls Try.prog 25 #[fmtV f, .slice a1 n1 c1] w fun e w' => e = .returned (.string A) ∧ Below w.heap.size w w'))
    (K25b : Hid (∀ w, IntsIn w.heap.size w a2 n2 ys → Calls Try.prog 25 #[fmtV f, .slice a2 n2 c2] w fun e w' => e = .returned (.string B) ∧ Below w.heap.size w w'))
    (K25c : Hid (∀ a c w, IntsIn w.heap.size w a (n1 + n2) (xs ++ ys) → Calls Try.prog 25 #[fmtV f, .slice a (n1 + n2) c] w fun e w' => e = .returned (.string (A ++ B)) ∧ Below w.heap.size w w'))
    (K25c2 : Hid (∀ a c w, IntsIn w.heap.size w a (n1 + n2) qs → Calls Try.prog 25 #[fmtV f, .slice a (n1 + n2) c] w fun e w' => e = .returned (.string (A ++ B)) ∧ Below w.heap.size w w'))
    : Calls Try.prog 6 #[fmtV f, .slice a1 n1 c1, .slice a2 n2 c2] w fun e w' => e = .returned (.bool true) ∧ Below w.heap.size w w' := by
  have hn1 : (n1 : Int) ≤ 400 := by omega
  have hn2 : (n2 : Int) ≤ 400 := by omega
  have hlt : (9223372036854775807 < P + Q) = False := eq_false (by omega)
  have F0 := hide (Blk.new w 23 (fmtC f))
  have B0 := hide ((Below.refl w.heap.size w).alloc (Nat.le_refl _) (.cells (fmtC f) 23))
  go_enter Try.func6, Try.ntmps6
  go_upto_region 1 with fail
  generalize w.alloc (.cells (fmtC f) 23) = w0 at *
  go_wp2_with fail
  refine (works23_any _).mono ?_
  rintro e w1 ⟨rfl, hb⟩
  have F1 := hide (F0.out.below hb)
  have B1 := hide (B0.out.trans (hb.mono B0.out.size))
  clear hb
  have f0 : w1.cell? ⟨w.heap.size, 0, none⟩ = some (.int .i64 f.bits) := F1.out.cell 0
  have f1 : w1.cell? ⟨w.heap.size, 1, none⟩ = some (.int .i64 f.depth) := F1.out.cell 1
  have f2 : w1.cell? ⟨w.heap.size, 2, none⟩ = some (.bool f.big) := F1.out.cell 2
  have f3 : w1.cell? ⟨w.heap.size, 3, none⟩ = some (.bool f.tru) := F1.out.cell 3
  have f4 : w1.cell? ⟨w.heap.size, 4, none⟩ = some (.int .i64 f.rm) := F1.out.cell 4
  have f5 : w1.cell? ⟨w.heap.size, 5, none⟩ = some (.int .i64 f.gm) := F1.out.cell 5
  have f6 : w1.cell? ⟨w.heap.size, 6, none⟩ = some (.int .i64 f.bm) := F1.out.cell 6
  have f7 : w1.cell? ⟨w.heap.size, 7, none⟩ = some (.int .i64 f.rs) := F1.out.cell 7
  have f8 : w1.cell? ⟨w.heap.size, 8, none⟩ = some (.int .i64 f.gs) := F1.out.cell 8
  have f9 : w1.cell? ⟨w.heap.size, 9, none⟩ = some (.int .i64 f.bs) := F1.out.cell 9
  go_wp2_with fail
  refine (K17.out _).mono ?_
  rintro e w2 ⟨rfl, hb⟩
  have F2 := hide (F1.out.below hb)
  have B2 := hide (B1.out.trans (hb.mono B1.out.size))
  clear hb
  clear f0 f1 f2 f3 f4 f5 f6 f7 f8 f9
  have LA2 : w.heap.size + 1 ≤ w2.heap.size := F2.out.lt
  go_wp2_with (at_builtin; refine wpList_append_ints rfl (.tmp 29) (.tmp 30) rfl (w.heap.size + 1) _ 0 [] xs rfl (World.ownsRow_nil _ _ _ _) a1 n1 c1 rfl hc1.out (intsIn_mono (hI1.out.below B2.out) B2.out.size) (by omega) LA2 ?_)
  intro v3 w3 O3 hb3 hk3
  have F3 : Hid (Blk w.heap.size 23 (fmtC f) w3) := hide ((hb3.block w.heap.size (by omega)).trans F2.out)
  have B3 := hide (B2.out.trans (hb3.mono (by omega)))
  have P3 := hide O3
  have LA3 := Nat.le_trans LA2 hb3.size
  clear hb3 hk3 O3
  obtain ⟨a3, c3, rfl⟩ := own_slice P3.out
  go_wp2_with (at_builtin; refine wpList_append_ints rfl (.tmp 32) (.tmp 33) rfl (w.heap.size + 1) _ n1 xs ys rfl P3.out a2 n2 c2 rfl hc2.out (intsIn_mono (hI2.out.below B3.out) B3.out.size) (by omega) LA3 ?_)
  intro v4 w4 O4 hb4 hk4
  have F4 : Hid (Blk w.heap.size 23 (fmtC f) w4) := hide ((hb4.block w.heap.size (by omega)).trans F3.out)
  have B4 := hide (B3.out.trans (hb4.mono (by omega)))
  have P4 := hide (show w4.ownsRow (w.heap.size + 1) 3 1 v4 (n1 + n2) ((xs ++ ys).map (Value.int .i64)) by rw [List.map_append]; exact O4)
  clear hb4 hk4 O4
  obtain ⟨a4, c4, rfl⟩ := own_slice P4.out
  have f0 : w4.cell? ⟨w.heap.size, 0, none⟩ = some (.int .i64 f.bits) := F4.out.cell 0
  have f1 : w4.cell? ⟨w.heap.size, 1, none⟩ = some (.int .i64 f.depth) := F4.out.cell 1
  have f2 : w4.cell? ⟨w.heap.size, 2, none⟩ = some (.bool f.big) := F4.out.cell 2
  have f3 : w4.cell? ⟨w.heap.size, 3, none⟩ = some (.bool f.tru) := F4.out.cell 3
  have f4 : w4.cell? ⟨w.heap.size, 4, none⟩ = some (.int .i64 f.rm) := F4.out.cell 4
  have f5 : w4.cell? ⟨w.heap.size, 5, none⟩ = some (.int .i64 f.gm) := F4.out.cell 5
  have f6 : w4.cell? ⟨w.heap.size, 6, none⟩ = some (.int .i64 f.bm) := F4.out.cell 6
  have f7 : w4.cell? ⟨w.heap.size, 7, none⟩ = some (.int .i64 f.rs) := F4.out.cell 7
  have f8 : w4.cell? ⟨w.heap.size, 8, none⟩ = some (.int .i64 f.gs) := F4.out.cell 8
  have f9 : w4.cell? ⟨w.heap.size, 9, none⟩ = some (.int .i64 f.bs) := F4.out.cell 9
  go_wp2_with fail
  refine (K35.out _ _ _ (own_ints P4.out)).mono ?_
  rintro e w5 ⟨v5, rfl, ho5, hb⟩
  have F5 := hide (F4.out.below hb)
  have B5 := hide (B4.out.trans (hb.mono B4.out.size))
  have P5 := hide (own_below P4.out hb)
  obtain ⟨a5, c5, rfl⟩ := own_slice ho5
  have Q5 := hide ho5
  clear ho5
  clear hb
  clear f0 f1 f2 f3 f4 f5 f6 f7 f8 f9
  go_wp2_with fail
  have F6 := hide (show Blk w.heap.size 23 (fmtC f) w5.drew from F5.out)
  have B6 := hide (show Below w.heap.size w w5.drew from B5.out.drew)
  have P6 := hide (P5.out.drew)
  have Q6 := hide (Q5.out.drew)
  refine plan_region [(0, true), (1, true), (3, true), (4, true), (7, true), (8, true), (2, false), (5, false), (6, true), (9, false), (10, true), (11, true)] (fun w' => Blk w.heap.size 23 (fmtC f) w') [] rfl (by kernel_rfl) (fun _ _ d _ _ h => by cases d <;> exact h) ?_
  generalize w5.drew = w6 at *
  refine plan_v (i := 0) (N := (some 38)) (v := ?v10x0) (a' := ?b10x0) rfl rfl F6.out (by rfl) ?hy10x0 ?ha10x0 ?_
  case hy10x0 =>
    intro w' hS'
    have f0 : w'.cell? ⟨w.heap.size, 0, none⟩ = some (.int .i64 f.bits) := hS'.cell 0
    have f1 : w'.cell? ⟨w.heap.size, 1, none⟩ = some (.int .i64 f.depth) := hS'.cell 1
    have f2 : w'.cell? ⟨w.heap.size, 2, none⟩ = some (.bool f.big) := hS'.cell 2
    have f3 : w'.cell? ⟨w.heap.size, 3, none⟩ = some (.bool f.tru) := hS'.cell 3
    have f4 : w'.cell? ⟨w.heap.size, 4, none⟩ = some (.int .i64 f.rm) := hS'.cell 4
    have f5 : w'.cell? ⟨w.heap.size, 5, none⟩ = some (.int .i64 f.gm) := hS'.cell 5
    have f6 : w'.cell? ⟨w.heap.size, 6, none⟩ = some (.int .i64 f.bm) := hS'.cell 6
    have f7 : w'.cell? ⟨w.heap.size, 7, none⟩ = some (.int .i64 f.rs) := hS'.cell 7
    have f8 : w'.cell? ⟨w.heap.size, 8, none⟩ = some (.int .i64 f.gs) := hS'.cell 8
    have f9 : w'.cell? ⟨w.heap.size, 9, none⟩ = some (.int .i64 f.bs) := hS'.cell 9
    go_simp
    with_reducible rfl
  case ha10x0 =>
    simp only [Act.put, List.setIfInBounds_toArray, List.set_cons_zero, List.set_cons_succ]
    rfl
  refine plan_v (i := 1) (N := (some 39)) (v := ?v10x1) (a' := ?b10x1) rfl rfl F6.out (by rfl) ?hy10x1 ?ha10x1 ?_
  case hy10x1 =>
    intro w' hS'
    go_simp
    with_reducible rfl
  case ha10x1 =>
    simp only [Act.put, List.setIfInBounds_toArray, List.set_cons_zero, List.set_cons_succ]
    rfl
  refine plan_v (i := 3) (N := (some 41)) (v := ?v10x3) (a' := ?b10x3) rfl rfl F6.out (by rfl) ?hy10x3 ?ha10x3 ?_
  case hy10x3 =>
    intro w' hS'
    have f0 : w'.cell? ⟨w.heap.size, 0, none⟩ = some (.int .i64 f.bits) := hS'.cell 0
    have f1 : w'.cell? ⟨w.heap.size, 1, none⟩ = some (.int .i64 f.depth) := hS'.cell 1
    have f2 : w'.cell? ⟨w.heap.size, 2, none⟩ = some (.bool f.big) := hS'.cell 2
    have f3 : w'.cell? ⟨w.heap.size, 3, none⟩ = some (.bool f.tru) := hS'.cell 3
    have f4 : w'.cell? ⟨w.heap.size, 4, none⟩ = some (.int .i64 f.rm) := hS'.cell 4
    have f5 : w'.cell? ⟨w.heap.size, 5, none⟩ = some (.int .i64 f.gm) := hS'.cell 5
    have f6 : w'.cell? ⟨w.heap.size, 6, none⟩ = some (.int .i64 f.bm) := hS'.cell 6
    have f7 : w'.cell? ⟨w.heap.size, 7, none⟩ = some (.int .i64 f.rs) := hS'.cell 7
    have f8 : w'.cell? ⟨w.heap.size, 8, none⟩ = some (.int .i64 f.gs) := hS'.cell 8
    have f9 : w'.cell? ⟨w.heap.size, 9, none⟩ = some (.int .i64 f.bs) := hS'.cell 9
    go_simp
    with_reducible rfl
  case ha10x3 =>
    simp only [Act.put, List.setIfInBounds_toArray, List.set_cons_zero, List.set_cons_succ]
    rfl
  refine plan_v (i := 4) (N := (some 42)) (v := ?v10x4) (a' := ?b10x4) rfl rfl F6.out (by rfl) ?hy10x4 ?ha10x4 ?_
  case hy10x4 =>
    intro w' hS'
    go_simp
    with_reducible rfl
  case ha10x4 =>
    simp only [Act.put, List.setIfInBounds_toArray, List.set_cons_zero, List.set_cons_succ]
    rfl
  refine plan_v (i := 7) (N := (some 45)) (v := ?v10x7) (a' := ?b10x7) rfl rfl F6.out (by rfl) ?hy10x7 ?ha10x7 ?_
  case hy10x7 =>
    intro w' hS'
    have f0 : w'.cell? ⟨w.heap.size, 0, none⟩ = some (.int .i64 f.bits) := hS'.cell 0
    have f1 : w'.cell? ⟨w.heap.size, 1, none⟩ = some (.int .i64 f.depth) := hS'.cell 1
    have f2 : w'.cell? ⟨w.heap.size, 2, none⟩ = some (.bool f.big) := hS'.cell 2
    have f3 : w'.cell? ⟨w.heap.size, 3, none⟩ = some (.bool f.tru) := hS'.cell 3
    have f4 : w'.cell? ⟨w.heap.size, 4, none⟩ = some (.int .i64 f.rm) := hS'.cell 4
    have f5 : w'.cell? ⟨w.heap.size, 5, none⟩ = some (.int .i64 f.gm) := hS'.cell 5
    have f6 : w'.cell? ⟨w.heap.size, 6, none⟩ = some (.int .i64 f.bm) := hS'.cell 6
    have f7 : w'.cell? ⟨w.heap.size, 7, none⟩ = some (.int .i64 f.rs) := hS'.cell 7
    have f8 : w'.cell? ⟨w.heap.size, 8, none⟩ = some (.int .i64 f.gs) := hS'.cell 8
    have f9 : w'.cell? ⟨w.heap.size, 9, none⟩ = some (.int .i64 f.bs) := hS'.cell 9
    go_simp
    with_reducible rfl
  case ha10x7 =>
    simp only [Act.put, List.setIfInBounds_toArray, List.set_cons_zero, List.set_cons_succ]
    rfl
  refine plan_v (i := 8) (N := (some 46)) (v := ?v10x8) (a' := ?b10x8) rfl rfl F6.out (by rfl) ?hy10x8 ?ha10x8 ?_
  case hy10x8 =>
    intro w' hS'
    go_simp
    with_reducible rfl
  case ha10x8 =>
    simp only [Act.put, List.setIfInBounds_toArray, List.set_cons_zero, List.set_cons_succ]
    rfl
  refine plan_e (i := 2) rfl (by rfl) (fun K hK => ?_)
  go_simp
  refine (K25a.out _ (intsIn_mono (hI1.out.below B6.out) B6.out.size)).mono ?_
  rintro e w7 ⟨rfl, hb⟩
  have F7 := hide (F6.out.below hb)
  have B7 := hide (B6.out.trans (hb.mono B6.out.size))
  have P7 := hide (own_below P6.out hb)
  have Q7 := hide (own_below Q6.out hb)
  clear hb
  refine hK _ _ (fun _ => F7.out) ?_
  clear hK K
  refine plan_e (i := 5) rfl (by rfl) (fun K hK => ?_)
  go_simp
  refine (K25b.out _ (intsIn_mono (hI2.out.below B7.out) B7.out.size)).mono ?_
  rintro e w8 ⟨rfl, hb⟩
  have F8 := hide (F7.out.below hb)
  have B8 := hide (B7.out.trans (hb.mono B7.out.size))
  have P8 := hide (own_below P7.out hb)
  have Q8 := hide (own_below Q7.out hb)
  clear hb
  refine hK _ _ (fun _ => F8.out) ?_
  clear hK K
  refine plan_v (i := 6) (N := (some 44)) (v := ?v10x6) (a' := ?b10x6) rfl rfl F8.out (by rfl) ?hy10x6 ?ha10x6 ?_
  case hy10x6 =>
    intro w' hS'
    go_simp
    with_reducible rfl
  case ha10x6 =>
    simp only [Act.put, List.setIfInBounds_toArray, List.set_cons_zero, List.set_cons_succ]
    rfl
  refine plan_e (i := 9) rfl (by rfl) (fun K hK => ?_)
  go_simp
  refine (K25c.out _ _ _ (own_ints P8.out)).mono ?_
  rintro e w9 ⟨rfl, hb⟩
  have F9 := hide (F8.out.below hb)
  have B9 := hide (B8.out.trans (hb.mono B8.out.size))
  have P9 := hide (own_below P8.out hb)
  have Q9 := hide (own_below Q8.out hb)
  clear hb
  refine hK _ _ (fun _ => F9.out) ?_
  clear hK K
  refine plan_v (i := 10) (N := (some 48)) (v := ?v10x10) (a' := ?b10x10) rfl rfl F9.out (by rfl) ?hy10x10 ?ha10x10 ?_
  case hy10x10 =>
    intro w' hS'
    go_simp
    with_reducible rfl
  case ha10x10 =>
    simp only [Act.put, List.setIfInBounds_toArray, List.set_cons_zero, List.set_cons_succ]
    rfl
  refine plan_v (i := 11) (N := (some 10)) (v := ?v10x11) (a' := ?b10x11) rfl rfl F9.out (by rfl) ?hy10x11 ?ha10x11 ?_
  case hy10x11 =>
    intro w' hS'
    go_simp
    with_reducible rfl
  case ha10x11 =>
    simp only [Act.put, List.setIfInBounds_toArray, List.set_cons_zero, List.set_cons_succ]
    rfl
  refine plan_done ?_
  go_wp2_with fail
  have F10 := hide (show Blk w.heap.size 23 (fmtC f) w9.drew from F9.out)
  have B10 := hide (show Below w.heap.size w w9.drew from B9.out.drew)
  have P10 := hide (P9.out.drew)
  have Q10 := hide (Q9.out.drew)
  refine plan_region [(0, true), (1, true), (4, true), (5, true), (2, false), (3, true), (6, true), (7, true), (8, true), (9, true), (12, true), (13, true), (14, true), (10, false), (11, true), (15, false), (16, true), (17, true), (18, true), (19, true)] (fun w' => Blk w.heap.size 23 (fmtC f) w') [] rfl (by kernel_rfl) (fun _ _ d _ _ h => by cases d <;> exact h) ?_
  generalize w9.drew = w10 at *
  refine plan_v (i := 0) (N := (some 49)) (v := ?v11x0) (a' := ?b11x0) rfl rfl F10.out (by rfl) ?hy11x0 ?ha11x0 ?_
  case hy11x0 =>
    intro w' hS'
    have f0 : w'.cell? ⟨w.heap.size, 0, none⟩ = some (.int .i64 f.bits) := hS'.cell 0
    have f1 : w'.cell? ⟨w.heap.size, 1, none⟩ = some (.int .i64 f.depth) := hS'.cell 1
    have f2 : w'.cell? ⟨w.heap.size, 2, none⟩ = some (.bool f.big) := hS'.cell 2
    have f3 : w'.cell? ⟨w.heap.size, 3, none⟩ = some (.bool f.tru) := hS'.cell 3
    have f4 : w'.cell? ⟨w.heap.size, 4, none⟩ = some (.int .i64 f.rm) := hS'.cell 4
    have f5 : w'.cell? ⟨w.heap.size, 5, none⟩ = some (.int .i64 f.gm) := hS'.cell 5
    have f6 : w'.cell? ⟨w.heap.size, 6, none⟩ = some (.int .i64 f.bm) := hS'.cell 6
    have f7 : w'.cell? ⟨w.heap.size, 7, none⟩ = some (.int .i64 f.rs) := hS'.cell 7
    have f8 : w'.cell? ⟨w.heap.size, 8, none⟩ = some (.int .i64 f.gs) := hS'.cell 8
    have f9 : w'.cell? ⟨w.heap.size, 9, none⟩ = some (.int .i64 f.bs) := hS'.cell 9
    go_simp
    with_reducible rfl
  case ha11x0 =>
    simp only [Act.put, List.setIfInBounds_toArray, List.set_cons_zero, List.set_cons_succ]
    rfl
  refine plan_v (i := 1) (N := (some 50)) (v := ?v11x1) (a' := ?b11x1) rfl rfl F10.out (by rfl) ?hy11x1 ?ha11x1 ?_
  case hy11x1 =>
    intro w' hS'
    go_simp
    with_reducible rfl
  case ha11x1 =>
    simp only [Act.put, List.setIfInBounds_toArray, List.set_cons_zero, List.set_cons_succ]
    rfl
  refine plan_v (i := 4) (N := (some 53)) (v := ?v11x4) (a' := ?b11x4) rfl rfl F10.out (by rfl) ?hy11x4 ?ha11x4 ?_
  case hy11x4 =>
    intro w' hS'
    go_simp
    with_reducible rfl
  case ha11x4 =>
    simp only [Act.put, List.setIfInBounds_toArray, List.set_cons_zero, List.set_cons_succ]
    rfl
  refine plan_v (i := 5) (N := (some 54)) (v := ?v11x5) (a' := ?b11x5) rfl rfl F10.out (by rfl) ?hy11x5 ?ha11x5 ?_
  case hy11x5 =>
    intro w' hS'
    go_simp
    with_reducible rfl
  case ha11x5 =>
    simp only [Act.put, List.setIfInBounds_toArray, List.set_cons_zero, List.set_cons_succ]
    rfl
  refine plan_e (i := 2) rfl (by rfl) (fun K hK => ?_)
  go_simp
  refine (K32.out _ _ _ (own_ints P10.out)).mono ?_
  rintro e w11 ⟨v9, rfl, ho9, hb⟩
  have F11 := hide (F10.out.below hb)
  have B11 := hide (B10.out.trans (hb.mono B10.out.size))
  have P11 := hide (own_below P10.out hb)
  have Q11 := hide (own_below Q10.out hb)
  obtain ⟨a9, c9, rfl⟩ := own_slice ho9
  clear ho9
  clear hb
  refine hK _ _ (fun _ => F11.out) ?_
  clear hK K
  refine plan_v (i := 3) (N := (some 52)) (v := ?v11x3) (a' := ?b11x3) rfl rfl F11.out (by rfl) ?hy11x3 ?ha11x3 ?_
  case hy11x3 =>
    intro w' hS'
    go_simp
    with_reducible rfl
  case ha11x3 =>
    simp only [Act.put, List.setIfInBounds_toArray, List.set_cons_zero, List.set_cons_succ]
    rfl
  refine plan_v (i := 6) (N := (some 55)) (v := ?v11x6) (a' := ?b11x6) rfl rfl F11.out (by rfl) ?hy11x6 ?ha11x6 ?_
  case hy11x6 =>
    intro w' hS'
    go_simp
    with_reducible rfl
  case ha11x6 =>
    simp only [Act.put, List.setIfInBounds_toArray, List.set_cons_zero, List.set_cons_succ]
    rfl
  refine plan_v (i := 7) (N := (some 56)) (v := ?v11x7) (a' := ?b11x7) rfl rfl F11.out (by rfl) ?hy11x7 ?ha11x7 ?_
  case hy11x7 =>
    intro w' hS'
    go_simp
    with_reducible rfl
  case ha11x7 =>
    simp only [Act.put, List.setIfInBounds_toArray, List.set_cons_zero, List.set_cons_succ]
    rfl
  refine plan_v (i := 8) (N := (some 57)) (v := ?v11x8) (a' := ?b11x8) rfl rfl F11.out (by rfl) ?hy11x8 ?ha11x8 ?_
  case hy11x8 =>
    intro w' hS'
    have f0 : w'.cell? ⟨w.heap.size, 0, none⟩ = some (.int .i64 f.bits) := hS'.cell 0
    have f1 : w'.cell? ⟨w.heap.size, 1, none⟩ = some (.int .i64 f.depth) := hS'.cell 1
    have f2 : w'.cell? ⟨w.heap.size, 2, none⟩ = some (.bool f.big) := hS'.cell 2
    have f3 : w'.cell? ⟨w.heap.size, 3, none⟩ = some (.bool f.tru) := hS'.cell 3
    have f4 : w'.cell? ⟨w.heap.size, 4, none⟩ = some (.int .i64 f.rm) := hS'.cell 4
    have f5 : w'.cell? ⟨w.heap.size, 5, none⟩ = some (.int .i64 f.gm) := hS'.cell 5
    have f6 : w'.cell? ⟨w.heap.size, 6, none⟩ = some (.int .i64 f.bm) := hS'.cell 6
    have f7 : w'.cell? ⟨w.heap.size, 7, none⟩ = some (.int .i64 f.rs) := hS'.cell 7
    have f8 : w'.cell? ⟨w.heap.size, 8, none⟩ = some (.int .i64 f.gs) := hS'.cell 8
    have f9 : w'.cell? ⟨w.heap.size, 9, none⟩ = some (.int .i64 f.bs) := hS'.cell 9
    go_simp
    with_reducible rfl
  case ha11x8 =>
    simp only [Act.put, List.setIfInBounds_toArray, List.set_cons_zero, List.set_cons_succ]
    rfl
  refine plan_v (i := 9) (N := (some 58)) (v := ?v11x9) (a' := ?b11x9) rfl rfl F11.out (by rfl) ?hy11x9 ?ha11x9 ?_
  case hy11x9 =>
    intro w' hS'
    go_simp
    with_reducible rfl
  case ha11x9 =>
    simp only [Act.put, List.setIfInBounds_toArray, List.set_cons_zero, List.set_cons_succ]
    rfl
  refine plan_v (i := 12) (N := (some 61)) (v := ?v11x12) (a' := ?b11x12) rfl rfl F11.out (by rfl) ?hy11x12 ?ha11x12 ?_
  case hy11x12 =>
    intro w' hS'
    go_simp
    with_reducible rfl
  case ha11x12 =>
    simp only [Act.put, List.setIfInBounds_toArray, List.set_cons_zero, List.set_cons_succ]
    rfl
  refine plan_v (i := 13) (N := (some 62)) (v := ?v11x13) (a' := ?b11x13) rfl rfl F11.out (by rfl) ?hy11x13 ?ha11x13 ?_
  case hy11x13 =>
    intro w' hS'
    go_simp
    with_reducible rfl
  case ha11x13 =>
    simp only [Act.put, List.setIfInBounds_toArray, List.set_cons_zero, List.set_cons_succ]
    rfl
  refine plan_v (i := 14) (N := (some 63)) (v := ?v11x14) (a' := ?b11x14) rfl rfl F11.out (by rfl) ?hy11x14 ?ha11x14 ?_
  case hy11x14 =>
    intro w' hS'
    have f0 : w'.cell? ⟨w.heap.size, 0, none⟩ = some (.int .i64 f.bits) := hS'.cell 0
    have f1 : w'.cell? ⟨w.heap.size, 1, none⟩ = some (.int .i64 f.depth) := hS'.cell 1
    have f2 : w'.cell? ⟨w.heap.size, 2, none⟩ = some (.bool f.big) := hS'.cell 2
    have f3 : w'.cell? ⟨w.heap.size, 3, none⟩ = some (.bool f.tru) := hS'.cell 3
    have f4 : w'.cell? ⟨w.heap.size, 4, none⟩ = some (.int .i64 f.rm) := hS'.cell 4
    have f5 : w'.cell? ⟨w.heap.size, 5, none⟩ = some (.int .i64 f.gm) := hS'.cell 5
    have f6 : w'.cell? ⟨w.heap.size, 6, none⟩ = some (.int .i64 f.bm) := hS'.cell 6
    have f7 : w'.cell? ⟨w.heap.size, 7, none⟩ = some (.int .i64 f.rs) := hS'.cell 7
    have f8 : w'.cell? ⟨w.heap.size, 8, none⟩ = some (.int .i64 f.gs) := hS'.cell 8
    have f9 : w'.cell? ⟨w.heap.size, 9, none⟩ = some (.int .i64 f.bs) := hS'.cell 9
    go_simp
    with_reducible rfl
  case ha11x14 =>
    simp only [Act.put, List.setIfInBounds_toArray, List.set_cons_zero, List.set_cons_succ]
    rfl
  refine plan_e (i := 10) rfl (by rfl) (fun K hK => ?_)
  go_simp
  refine (K25c.out _ _ _ (own_ints P11.out)).mono ?_
  rintro e w12 ⟨rfl, hb⟩
  have F12 := hide (F11.out.below hb)
  have B12 := hide (B11.out.trans (hb.mono B11.out.size))
  have P12 := hide (own_below P11.out hb)
  have Q12 := hide (own_below Q11.out hb)
  clear hb
  refine hK _ _ (fun _ => F12.out) ?_
  clear hK K
  refine plan_v (i := 11) (N := (some 60)) (v := ?v11x11) (a' := ?b11x11) rfl rfl F12.out (by rfl) ?hy11x11 ?ha11x11 ?_
  case hy11x11 =>
    intro w' hS'
    go_simp
    with_reducible rfl
  case ha11x11 =>
    simp only [Act.put, List.setIfInBounds_toArray, List.set_cons_zero, List.set_cons_succ]
    rfl
  refine plan_e (i := 15) rfl (by rfl) (fun K hK => ?_)
  go_simp
  refine (K27.out _).mono ?_
  rintro e w13 ⟨rfl, hb⟩
  have F13 := hide (F12.out.below hb)
  have B13 := hide (B12.out.trans (hb.mono B12.out.size))
  have P13 := hide (own_below P12.out hb)
  have Q13 := hide (own_below Q12.out hb)
  clear hb
  refine hK _ _ (fun _ => F13.out) ?_
  clear hK K
  refine plan_v (i := 16) (N := (some 65)) (v := ?v11x16) (a' := ?b11x16) rfl rfl F13.out (by rfl) ?hy11x16 ?ha11x16 ?_
  case hy11x16 =>
    intro w' hS'
    go_simp
    with_reducible rfl
  case ha11x16 =>
    simp only [Act.put, List.setIfInBounds_toArray, List.set_cons_zero, List.set_cons_succ]
    rfl
  refine plan_v (i := 17) (N := (some 66)) (v := ?v11x17) (a' := ?b11x17) rfl rfl F13.out (by rfl) ?hy11x17 ?ha11x17 ?_
  case hy11x17 =>
    intro w' hS'
    go_simp
    with_reducible rfl
  case ha11x17 =>
    simp only [Act.put, List.setIfInBounds_toArray, List.set_cons_zero, List.set_cons_succ]
    rfl
  refine plan_v (i := 18) (N := (some 67)) (v := ?v11x18) (a' := ?b11x18) rfl rfl F13.out (by rfl) ?hy11x18 ?ha11x18 ?_
  case hy11x18 =>
    intro w' hS'
    go_simp
    with_reducible rfl
  case ha11x18 =>
    simp only [Act.put, List.setIfInBounds_toArray, List.set_cons_zero, List.set_cons_succ]
    rfl
  refine plan_v (i := 19) (N := (some 11)) (v := ?v11x19) (a' := ?b11x19) rfl rfl F13.out (by rfl) ?hy11x19 ?ha11x19 ?_
  case hy11x19 =>
    intro w' hS'
    go_simp
    with_reducible rfl
  case ha11x19 =>
    simp only [Act.put, List.setIfInBounds_toArray, List.set_cons_zero, List.set_cons_succ]
    rfl
  refine plan_done ?_
  have f0 : w13.cell? ⟨w.heap.size, 0, none⟩ = some (.int .i64 f.bits) := F13.out.cell 0
  have f1 : w13.cell? ⟨w.heap.size, 1, none⟩ = some (.int .i64 f.depth) := F13.out.cell 1
  have f2 : w13.cell? ⟨w.heap.size, 2, none⟩ = some (.bool f.big) := F13.out.cell 2
  have f3 : w13.cell? ⟨w.heap.size, 3, none⟩ = some (.bool f.tru) := F13.out.cell 3
  have f4 : w13.cell? ⟨w.heap.size, 4, none⟩ = some (.int .i64 f.rm) := F13.out.cell 4
  have f5 : w13.cell? ⟨w.heap.size, 5, none⟩ = some (.int .i64 f.gm) := F13.out.cell 5
  have f6 : w13.cell? ⟨w.heap.size, 6, none⟩ = some (.int .i64 f.bm) := F13.out.cell 6
  have f7 : w13.cell? ⟨w.heap.size, 7, none⟩ = some (.int .i64 f.rs) := F13.out.cell 7
  have f8 : w13.cell? ⟨w.heap.size, 8, none⟩ = some (.int .i64 f.gs) := F13.out.cell 8
  have f9 : w13.cell? ⟨w.heap.size, 9, none⟩ = some (.int .i64 f.bs) := F13.out.cell 9
  go_wp2_with fail
  clear f0 f1 f2 f3 f4 f5 f6 f7 f8 f9
  have F14 := hide (show Blk w.heap.size 23 (fmtC f) w13.drew from F13.out)
  have B14 := hide (show Below w.heap.size w w13.drew from B13.out.drew)
  have P14 := hide (P13.out.drew)
  have Q14 := hide (Q13.out.drew)
  refine plan_region [(0, true), (1, true), (2, true), (3, true), (4, true), (5, true), (6, true), (7, true), (8, true), (9, true), (11, true), (12, true), (10, false), (13, false), (14, true), (15, true), (16, true)] (fun w' => Blk w.heap.size 23 (fmtC f) w') [] rfl (by kernel_rfl) (fun _ _ d _ _ h => by cases d <;> exact h) ?_
  generalize w13.drew = w14 at *
  refine plan_v (i := 0) (N := (some 88)) (v := ?v14x0) (a' := ?b14x0) rfl rfl F14.out (by rfl) ?hy14x0 ?ha14x0 ?_
  case hy14x0 =>
    intro w' hS'
    go_simp
    with_reducible rfl
  case ha14x0 =>
    simp only [Act.put, List.setIfInBounds_toArray, List.set_cons_zero, List.set_cons_succ]
    rfl
  refine plan_v (i := 1) (N := (some 89)) (v := ?v14x1) (a' := ?b14x1) rfl rfl F14.out (by rfl) ?hy14x1 ?ha14x1 ?_
  case hy14x1 =>
    intro w' hS'
    go_simp
    with_reducible rfl
  case ha14x1 =>
    simp only [Act.put, List.setIfInBounds_toArray, List.set_cons_zero, List.set_cons_succ]
    rfl
  refine plan_v (i := 2) (N := (some 90)) (v := ?v14x2) (a' := ?b14x2) rfl rfl F14.out (by rfl) ?hy14x2 ?ha14x2 ?_
  case hy14x2 =>
    intro w' hS'
    go_simp
    with_reducible rfl
  case ha14x2 =>
    simp only [Act.put, List.setIfInBounds_toArray, List.set_cons_zero, List.set_cons_succ]
    rfl
  refine plan_v (i := 3) (N := (some 91)) (v := ?v14x3) (a' := ?b14x3) rfl rfl F14.out (by rfl) ?hy14x3 ?ha14x3 ?_
  case hy14x3 =>
    intro w' hS'
    go_simp
    with_reducible rfl
  case ha14x3 =>
    simp only [Act.put, List.setIfInBounds_toArray, List.set_cons_zero, List.set_cons_succ]
    rfl
  refine plan_v (i := 4) (N := (some 92)) (v := ?v14x4) (a' := ?b14x4) rfl rfl F14.out (by rfl) ?hy14x4 ?ha14x4 ?_
  case hy14x4 =>
    intro w' hS'
    go_simp
    with_reducible rfl
  case ha14x4 =>
    simp only [Act.put, List.setIfInBounds_toArray, List.set_cons_zero, List.set_cons_succ]
    rfl
  refine plan_v (i := 5) (N := (some 93)) (v := ?v14x5) (a' := ?b14x5) rfl rfl F14.out (by rfl) ?hy14x5 ?ha14x5 ?_
  case hy14x5 =>
    intro w' hS'
    go_simp
    with_reducible rfl
  case ha14x5 =>
    simp only [Act.put, List.setIfInBounds_toArray, List.set_cons_zero, List.set_cons_succ]
    rfl
  refine plan_v (i := 6) (N := (some 94)) (v := ?v14x6) (a' := ?b14x6) rfl rfl F14.out (by rfl) ?hy14x6 ?ha14x6 ?_
  case hy14x6 =>
    intro w' hS'
    go_simp
    with_reducible rfl
  case ha14x6 =>
    simp only [Act.put, List.setIfInBounds_toArray, List.set_cons_zero, List.set_cons_succ]
    rfl
  refine plan_v (i := 7) (N := (some 95)) (v := ?v14x7) (a' := ?b14x7) rfl rfl F14.out (by rfl) ?hy14x7 ?ha14x7 ?_
  case hy14x7 =>
    intro w' hS'
    go_simp
    with_reducible rfl
  case ha14x7 =>
    simp only [Act.put, List.setIfInBounds_toArray, List.set_cons_zero, List.set_cons_succ]
    rfl
  refine plan_v (i := 8) (N := (some 96)) (v := ?v14x8) (a' := ?b14x8) rfl rfl F14.out (by rfl) ?hy14x8 ?ha14x8 ?_
  case hy14x8 =>
    intro w' hS'
    have f0 : w'.cell? ⟨w.heap.size, 0, none⟩ = some (.int .i64 f.bits) := hS'.cell 0
    have f1 : w'.cell? ⟨w.heap.size, 1, none⟩ = some (.int .i64 f.depth) := hS'.cell 1
    have f2 : w'.cell? ⟨w.heap.size, 2, none⟩ = some (.bool f.big) := hS'.cell 2
    have f3 : w'.cell? ⟨w.heap.size, 3, none⟩ = some (.bool f.tru) := hS'.cell 3
    have f4 : w'.cell? ⟨w.heap.size, 4, none⟩ = some (.int .i64 f.rm) := hS'.cell 4
    have f5 : w'.cell? ⟨w.heap.size, 5, none⟩ = some (.int .i64 f.gm) := hS'.cell 5
    have f6 : w'.cell? ⟨w.heap.size, 6, none⟩ = some (.int .i64 f.bm) := hS'.cell 6
    have f7 : w'.cell? ⟨w.heap.size, 7, none⟩ = some (.int .i64 f.rs) := hS'.cell 7
    have f8 : w'.cell? ⟨w.heap.size, 8, none⟩ = some (.int .i64 f.gs) := hS'.cell 8
    have f9 : w'.cell? ⟨w.heap.size, 9, none⟩ = some (.int .i64 f.bs) := hS'.cell 9
    go_simp
    with_reducible rfl
  case ha14x8 =>
    simp only [Act.put, List.setIfInBounds_toArray, List.set_cons_zero, List.set_cons_succ]
    rfl
  refine plan_v (i := 9) (N := (some 97)) (v := ?v14x9) (a' := ?b14x9) rfl rfl F14.out (by rfl) ?hy14x9 ?ha14x9 ?_
  case hy14x9 =>
    intro w' hS'
    go_simp
    with_reducible rfl
  case ha14x9 =>
    simp only [Act.put, List.setIfInBounds_toArray, List.set_cons_zero, List.set_cons_succ]
    rfl
  refine plan_v (i := 11) (N := (some 99)) (v := ?v14x11) (a' := ?b14x11) rfl rfl F14.out (by rfl) ?hy14x11 ?ha14x11 ?_
  case hy14x11 =>
    intro w' hS'
    have f0 : w'.cell? ⟨w.heap.size, 0, none⟩ = some (.int .i64 f.bits) := hS'.cell 0
    have f1 : w'.cell? ⟨w.heap.size, 1, none⟩ = some (.int .i64 f.depth) := hS'.cell 1
    have f2 : w'.cell? ⟨w.heap.size, 2, none⟩ = some (.bool f.big) := hS'.cell 2
    have f3 : w'.cell? ⟨w.heap.size, 3, none⟩ = some (.bool f.tru) := hS'.cell 3
    have f4 : w'.cell? ⟨w.heap.size, 4, none⟩ = some (.int .i64 f.rm) := hS'.cell 4
    have f5 : w'.cell? ⟨w.heap.size, 5, none⟩ = some (.int .i64 f.gm) := hS'.cell 5
    have f6 : w'.cell? ⟨w.heap.size, 6, none⟩ = some (.int .i64 f.bm) := hS'.cell 6
    have f7 : w'.cell? ⟨w.heap.size, 7, none⟩ = some (.int .i64 f.rs) := hS'.cell 7
    have f8 : w'.cell? ⟨w.heap.size, 8, none⟩ = some (.int .i64 f.gs) := hS'.cell 8
    have f9 : w'.cell? ⟨w.heap.size, 9, none⟩ = some (.int .i64 f.bs) := hS'.cell 9
    go_simp
    with_reducible rfl
  case ha14x11 =>
    simp only [Act.put, List.setIfInBounds_toArray, List.set_cons_zero, List.set_cons_succ]
    rfl
  refine plan_v (i := 12) (N := (some 100)) (v := ?v14x12) (a' := ?b14x12) rfl rfl F14.out (by rfl) ?hy14x12 ?ha14x12 ?_
  case hy14x12 =>
    intro w' hS'
    go_simp
    with_reducible rfl
  case ha14x12 =>
    simp only [Act.put, List.setIfInBounds_toArray, List.set_cons_zero, List.set_cons_succ]
    rfl
  refine plan_e (i := 10) rfl (by rfl) (fun K hK => ?_)
  go_simp
  refine (K25c2.out _ _ _ (own_ints Q14.out)).mono ?_
  rintro e w15 ⟨rfl, hb⟩
  have F15 := hide (F14.out.below hb)
  have B15 := hide (B14.out.trans (hb.mono B14.out.size))
  have P15 := hide (own_below P14.out hb)
  have Q15 := hide (own_below Q14.out hb)
  clear hb
  refine hK _ _ (fun _ => F15.out) ?_
  clear hK K
  refine plan_e (i := 13) rfl (by rfl) (fun K hK => ?_)
  go_simp
  refine (K25c.out _ _ _ (own_ints P15.out)).mono ?_
  rintro e w16 ⟨rfl, hb⟩
  have F16 := hide (F15.out.below hb)
  have B16 := hide (B15.out.trans (hb.mono B15.out.size))
  have P16 := hide (own_below P15.out hb)
  have Q16 := hide (own_below Q15.out hb)
  clear hb
  refine hK _ _ (fun _ => F16.out) ?_
  clear hK K
  refine plan_v (i := 14) (N := (some 102)) (v := ?v14x14) (a' := ?b14x14) rfl rfl F16.out (by rfl) ?hy14x14 ?ha14x14 ?_
  case hy14x14 =>
    intro w' hS'
    go_simp
    with_reducible rfl
  case ha14x14 =>
    simp only [Act.put, List.setIfInBounds_toArray, List.set_cons_zero, List.set_cons_succ]
    rfl
  refine plan_v (i := 15) (N := (some 103)) (v := ?v14x15) (a' := ?b14x15) rfl rfl F16.out (by rfl) ?hy14x15 ?ha14x15 ?_
  case hy14x15 =>
    intro w' hS'
    go_simp
    with_reducible rfl
  case ha14x15 =>
    simp only [Act.put, List.setIfInBounds_toArray, List.set_cons_zero, List.set_cons_succ]
    rfl
  refine plan_v (i := 16) (N := (some 6)) (v := ?v14x16) (a' := ?b14x16) rfl rfl F16.out (by rfl) ?hy14x16 ?ha14x16 ?_
  case hy14x16 =>
    intro w' hS'
    go_simp
    with_reducible rfl
  case ha14x16 =>
    simp only [Act.put, List.setIfInBounds_toArray, List.set_cons_zero, List.set_cons_succ]
    rfl
  refine plan_done ?_
  go_wp2_with fail
  go_ret
  exact ⟨rfl, B16.out⟩

end Go.Proofs.Ytodlpofpeoiedaa
