/-
  PlainBack: the law.
-/
import Derived.Test.YtodlpofpeoiedaaCP
namespace Go.Proofs.Ytodlpofpeoiedaa
open Go.RowKit Go.Sort

set_option maxHeartbeats 6400000 in
set_option maxRecDepth 100000 in
theorem law4_yes (f : Fmt) (a1 : Option Addr) (n1 c1 k N M : Nat) (zs qs : List Int) (a b : Int) (A t : ByteArray) (w : World) (h1 : n1 ≤ 400) (h2 : t.size ≤ 400) (hI : Hid (IntsIn w.heap.size w a1 n1 zs)) (hA : A.size = N) (hN : (n1 : Int) * k = N) (hN2 : N ≤ 1600) (hab : a * b = n1)
    (hz : Hid (M + 1 = N))
    (K24 : Hid (∀ w, Calls Try.prog 24 #[fmtV f, .int .i64 a, .int .i64 b] w fun e w' => e = .returned (.bool true) ∧ Below w.heap.size w w'))
    (K27 : Hid (∀ w, Calls Try.prog 27 #[fmtV f] w fun e w' => e = .returned (.int .i64 k) ∧ Below w.heap.size w w'))
    (K25 : Hid (∀ w, IntsIn w.heap.size w a1 n1 zs → Calls Try.prog 25 #[fmtV f, .slice a1 n1 c1] w fun e w' => e = .returned (.string A) ∧ Below w.heap.size w w'))
    (K26 : Hid (∀ w, Calls Try.prog 26 #[fmtV f, .int .i64 a, .int .i64 b, .string (A ++ t)] w fun e w' => ∃ a c, e = .returned (.tuple #[.slice a n1 c, .int .i64 N, .int .i64 0]) ∧ IntsIn w'.heap.size w' a n1 qs ∧ Below w.heap.size w w'))
    (K28 : Hid (∀ j, j < n1 → ∀ w, Calls Try.prog 28 #[fmtV f, .int .i64 (zs[j]?.getD 0)] w fun e w' => e = .returned (.int .i64 (qs[j]?.getD 0)) ∧ Below w.heap.size w w'))
    (K26b : Hid (∀ w, Calls Try.prog 26 #[fmtV f, .int .i64 a, .int .i64 b, .string (A.extract 0 M)] w fun e w' => e = .returned (.tuple #[.slice none 0 0, .int .i64 0, .int .i64 2]) ∧ Below w.heap.size w w'))
    : Calls Try.prog 4 #[fmtV f, .int .i64 a, .int .i64 b, .slice a1 n1 c1, .string t] w fun e w' => e = .returned (.bool true) ∧ Below w.heap.size w w' := by
  have hn1 : (n1 : Int) ≤ 400 := by omega
  have hs1 : (t.size : Int) ≤ 400 := by omega
  have hlt : (9223372036854775807 < N + t.size) = False := eq_false (by omega)
  have F0 := hide (Blk.new w 23 (fmtC f))
  have B0 := hide ((Below.refl w.heap.size w).alloc (Nat.le_refl _) (.cells (fmtC f) 23))
  go_enter Try.func4, Try.ntmps4
  go_upto_region 1 with fail
  generalize w.alloc (.cells (fmtC f) 23) = w0 at *
  go_wp2_with fail
  refine (works23_any _).mono ?_
  rintro e w1 ⟨rfl, hb⟩
  have F1 := hide (F0.out.below hb)
  have B1 := hide (B0.out.trans (hb.mono B0.out.size))
  clear hb
  have f0 : w1.cell? ⟨w.heap.size, 0, none⟩ = some (.int .i64 f.bits) := F1.out.cell 0
  have f1 : w1.cell? ⟨w.heap.size, 1, none⟩ = some (.int .i64 f.depth) := F1.out.cell 1
  have f2 : w1.cell? ⟨w.heap.size, 2, none⟩ = some (.bool f.big) := F1.out.cell 2
  have f3 : w1.cell? ⟨w.heap.size, 3, none⟩ = some (.bool f.tru) := F1.out.cell 3
  have f4 : w1.cell? ⟨w.heap.size, 4, none⟩ = some (.int .i64 f.rm) := F1.out.cell 4
  have f5 : w1.cell? ⟨w.heap.size, 5, none⟩ = some (.int .i64 f.gm) := F1.out.cell 5
  have f6 : w1.cell? ⟨w.heap.size, 6, none⟩ = some (.int .i64 f.bm) := F1.out.cell 6
  have f7 : w1.cell? ⟨w.heap.size, 7, none⟩ = some (.int .i64 f.rs) := F1.out.cell 7
  have f8 : w1.cell? ⟨w.heap.size, 8, none⟩ = some (.int .i64 f.gs) := F1.out.cell 8
  have f9 : w1.cell? ⟨w.heap.size, 9, none⟩ = some (.int .i64 f.bs) := F1.out.cell 9
  go_wp2_with fail
  refine (K24.out _).mono ?_
  rintro e w2 ⟨rfl, hb⟩
  have F2 := hide (F1.out.below hb)
  have B2 := hide (B1.out.trans (hb.mono B1.out.size))
  clear hb
  clear f0 f1 f2 f3 f4 f5 f6 f7 f8 f9
  have f0 : w2.cell? ⟨w.heap.size, 0, none⟩ = some (.int .i64 f.bits) := F2.out.cell 0
  have f1 : w2.cell? ⟨w.heap.size, 1, none⟩ = some (.int .i64 f.depth) := F2.out.cell 1
  have f2 : w2.cell? ⟨w.heap.size, 2, none⟩ = some (.bool f.big) := F2.out.cell 2
  have f3 : w2.cell? ⟨w.heap.size, 3, none⟩ = some (.bool f.tru) := F2.out.cell 3
  have f4 : w2.cell? ⟨w.heap.size, 4, none⟩ = some (.int .i64 f.rm) := F2.out.cell 4
  have f5 : w2.cell? ⟨w.heap.size, 5, none⟩ = some (.int .i64 f.gm) := F2.out.cell 5
  have f6 : w2.cell? ⟨w.heap.size, 6, none⟩ = some (.int .i64 f.bm) := F2.out.cell 6
  have f7 : w2.cell? ⟨w.heap.size, 7, none⟩ = some (.int .i64 f.rs) := F2.out.cell 7
  have f8 : w2.cell? ⟨w.heap.size, 8, none⟩ = some (.int .i64 f.gs) := F2.out.cell 8
  have f9 : w2.cell? ⟨w.heap.size, 9, none⟩ = some (.int .i64 f.bs) := F2.out.cell 9
  go_wp2_with fail
  refine (K25.out _ (intsIn_mono (hI.out.below B2.out) B2.out.size)).mono ?_
  rintro e w3 ⟨rfl, hb⟩
  have F3 := hide (F2.out.below hb)
  have B3 := hide (B2.out.trans (hb.mono B2.out.size))
  clear hb
  clear f0 f1 f2 f3 f4 f5 f6 f7 f8 f9
  have f0 : w3.cell? ⟨w.heap.size, 0, none⟩ = some (.int .i64 f.bits) := F3.out.cell 0
  have f1 : w3.cell? ⟨w.heap.size, 1, none⟩ = some (.int .i64 f.depth) := F3.out.cell 1
  have f2 : w3.cell? ⟨w.heap.size, 2, none⟩ = some (.bool f.big) := F3.out.cell 2
  have f3 : w3.cell? ⟨w.heap.size, 3, none⟩ = some (.bool f.tru) := F3.out.cell 3
  have f4 : w3.cell? ⟨w.heap.size, 4, none⟩ = some (.int .i64 f.rm) := F3.out.cell 4
  have f5 : w3.cell? ⟨w.heap.size, 5, none⟩ = some (.int .i64 f.gm) := F3.out.cell 5
  have f6 : w3.cell? ⟨w.heap.size, 6, none⟩ = some (.int .i64 f.bm) := F3.out.cell 6
  have f7 : w3.cell? ⟨w.heap.size, 7, none⟩ = some (.int .i64 f.rs) := F3.out.cell 7
  have f8 : w3.cell? ⟨w.heap.size, 8, none⟩ = some (.int .i64 f.gs) := F3.out.cell 8
  have f9 : w3.cell? ⟨w.heap.size, 9, none⟩ = some (.int .i64 f.bs) := F3.out.cell 9
  go_wp2_with fail
  refine (K26.out _).mono ?_
  rintro e w4 ⟨a4, c4, rfl, hp4, hb⟩
  have F4 := hide (F3.out.below hb)
  have B4 := hide (B3.out.trans (hb.mono B3.out.size))
  have P4 := hide hp4
  clear hp4
  clear hb
  clear f0 f1 f2 f3 f4 f5 f6 f7 f8 f9
  have f0 : w4.cell? ⟨w.heap.size, 0, none⟩ = some (.int .i64 f.bits) := F4.out.cell 0
  have f1 : w4.cell? ⟨w.heap.size, 1, none⟩ = some (.int .i64 f.depth) := F4.out.cell 1
  have f2 : w4.cell? ⟨w.heap.size, 2, none⟩ = some (.bool f.big) := F4.out.cell 2
  have f3 : w4.cell? ⟨w.heap.size, 3, none⟩ = some (.bool f.tru) := F4.out.cell 3
  have f4 : w4.cell? ⟨w.heap.size, 4, none⟩ = some (.int .i64 f.rm) := F4.out.cell 4
  have f5 : w4.cell? ⟨w.heap.size, 5, none⟩ = some (.int .i64 f.gm) := F4.out.cell 5
  have f6 : w4.cell? ⟨w.heap.size, 6, none⟩ = some (.int .i64 f.bm) := F4.out.cell 6
  have f7 : w4.cell? ⟨w.heap.size, 7, none⟩ = some (.int .i64 f.rs) := F4.out.cell 7
  have f8 : w4.cell? ⟨w.heap.size, 8, none⟩ = some (.int .i64 f.gs) := F4.out.cell 8
  have f9 : w4.cell? ⟨w.heap.size, 9, none⟩ = some (.int .i64 f.bs) := F4.out.cell 9
  go_wp2_with fail
  refine (K27.out _).mono ?_
  rintro e w5 ⟨rfl, hb⟩
  have F5 := hide (F4.out.below hb)
  have B5 := hide (B4.out.trans (hb.mono B4.out.size))
  have P5 := hide (ints_keep P4.out hb)
  clear hb
  clear f0 f1 f2 f3 f4 f5 f6 f7 f8 f9
  go_wp2_with fail
  go_loopw [16] (fun i wr => ∃ j : Nat, j ≤ n1 ∧ i = .int .i64 j ∧ Hid (Blk w.heap.size 23 (fmtC f) wr) ∧ Hid (Below w.heap.size w wr) ∧ Hid (Below w5.heap.size w5 wr)) (fun i _ => n1 - (intOf i).toNat)
  case atStart => exact ⟨0, by omega, rfl, F5, B5, hide (Below.refl _ _)⟩
  case round =>
    obtain ⟨j, hj, rfl, hF, hB, hR⟩ := hrel
    by_cases hlt : j < n1
    · obtain ⟨b1, o1, rfl, hb1, hx⟩ := hI.out.2.resolve_left (by omega)
      obtain ⟨b2, o2, rfl, hb2, hy⟩ := P5.out.2.resolve_left (by omega)
      have X := hide ((hB.out.cell (p := ⟨b1, o1 + j, none⟩) hb1).trans (hx j hlt))
      have Y := hide ((hR.out.cell (p := ⟨b2, o2 + j, none⟩) hb2).trans (hy j hlt))
      have KC := hide (K28.out j hlt)
      have g1 : b1 < wr.heap.size := Nat.lt_of_lt_of_le hb1 hB.out.size
      have g2 : b2 < wr.heap.size := Nat.lt_of_lt_of_le hb2 hR.out.size
      clear hx hy hb1 hb2
      generalize zs[j]?.getD 0 = x at *
      generalize qs[j]?.getD 0 = y at *
      go_wp2_with fail
      have F20 := hide (show Blk w.heap.size 23 (fmtC f) wr.drew ∧ wr.drew.cell? ⟨b1, o1 + j, none⟩ = some (.int .i64 x) ∧ wr.drew.cell? ⟨b2, o2 + j, none⟩ = some (.int .i64 y) from ⟨hF.out, X.out, Y.out⟩)
      have B20 := hide (show Below w.heap.size w wr.drew from hB.out.drew)
      have R20 := hide (show Below w5.heap.size w5 wr.drew from hR.out.drew)
      have g3 : b1 < wr.drew.heap.size := g1
      have g4 : b2 < wr.drew.heap.size := g2
      clear X Y g1 g2
      refine plan_region [(0, true), (1, true), (2, true), (3, true), (4, true), (5, true), (6, true), (7, true), (8, true), (9, false), (10, true)] (fun w' => Blk w.heap.size 23 (fmtC f) w' ∧ w'.cell? ⟨b1, o1 + j, none⟩ = some (.int .i64 x) ∧ w'.cell? ⟨b2, o2 + j, none⟩ = some (.int .i64 y)) [] rfl (by kernel_rfl) (fun _ _ d _ _ h => by cases d <;> exact h) ?_
      generalize wr.drew = w20 at *
      refine plan_v (i := 0) (N := (some 92)) (v := ?v13x0) (a' := ?b13x0) rfl rfl F20.out (by rfl) ?hy13x0 ?ha13x0 ?_
      case hy13x0 =>
        intro w' hS'
        go_simp
        with_reducible rfl
      case ha13x0 =>
        simp only [Act.put, List.setIfInBounds_toArray, List.set_cons_zero, List.set_cons_succ]
        rfl
      refine plan_v (i := 1) (N := (some 93)) (v := ?v13x1) (a' := ?b13x1) rfl rfl F20.out (by rfl) ?hy13x1 ?ha13x1 ?_
      case hy13x1 =>
        intro w' hS'
        go_simp
        with_reducible rfl
      case ha13x1 =>
        simp only [Act.put, List.setIfInBounds_toArray, List.set_cons_zero, List.set_cons_succ]
        rfl
      refine plan_v (i := 2) (N := (some 94)) (v := ?v13x2) (a' := ?b13x2) rfl rfl F20.out (by rfl) ?hy13x2 ?ha13x2 ?_
      case hy13x2 =>
        intro w' hS'
        go_simp
        with_reducible rfl
      case ha13x2 =>
        simp only [Act.put, List.setIfInBounds_toArray, List.set_cons_zero, List.set_cons_succ]
        rfl
      refine plan_v (i := 3) (N := (some 95)) (v := ?v13x3) (a' := ?b13x3) rfl rfl F20.out (by rfl) ?hy13x3 ?ha13x3 ?_
      case hy13x3 =>
        intro w' hS'
        have x0 := hS'.2.2
        go_simp
        with_reducible rfl
      case ha13x3 =>
        simp only [Act.put, List.setIfInBounds_toArray, List.set_cons_zero, List.set_cons_succ]
        rfl
      refine plan_v (i := 4) (N := (some 96)) (v := ?v13x4) (a' := ?b13x4) rfl rfl F20.out (by rfl) ?hy13x4 ?ha13x4 ?_
      case hy13x4 =>
        intro w' hS'
        have f0 : w'.cell? ⟨w.heap.size, 0, none⟩ = some (.int .i64 f.bits) := hS'.1.cell 0
        have f1 : w'.cell? ⟨w.heap.size, 1, none⟩ = some (.int .i64 f.depth) := hS'.1.cell 1
        have f2 : w'.cell? ⟨w.heap.size, 2, none⟩ = some (.bool f.big) := hS'.1.cell 2
        have f3 : w'.cell? ⟨w.heap.size, 3, none⟩ = some (.bool f.tru) := hS'.1.cell 3
        have f4 : w'.cell? ⟨w.heap.size, 4, none⟩ = some (.int .i64 f.rm) := hS'.1.cell 4
        have f5 : w'.cell? ⟨w.heap.size, 5, none⟩ = some (.int .i64 f.gm) := hS'.1.cell 5
        have f6 : w'.cell? ⟨w.heap.size, 6, none⟩ = some (.int .i64 f.bm) := hS'.1.cell 6
        have f7 : w'.cell? ⟨w.heap.size, 7, none⟩ = some (.int .i64 f.rs) := hS'.1.cell 7
        have f8 : w'.cell? ⟨w.heap.size, 8, none⟩ = some (.int .i64 f.gs) := hS'.1.cell 8
        have f9 : w'.cell? ⟨w.heap.size, 9, none⟩ = some (.int .i64 f.bs) := hS'.1.cell 9
        go_simp
        with_reducible rfl
      case ha13x4 =>
        simp only [Act.put, List.setIfInBounds_toArray, List.set_cons_zero, List.set_cons_succ]
        rfl
      refine plan_v (i := 5) (N := (some 97)) (v := ?v13x5) (a' := ?b13x5) rfl rfl F20.out (by rfl) ?hy13x5 ?ha13x5 ?_
      case hy13x5 =>
        intro w' hS'
        go_simp
        with_reducible rfl
      case ha13x5 =>
        simp only [Act.put, List.setIfInBounds_toArray, List.set_cons_zero, List.set_cons_succ]
        rfl
      refine plan_v (i := 6) (N := (some 98)) (v := ?v13x6) (a' := ?b13x6) rfl rfl F20.out (by rfl) ?hy13x6 ?ha13x6 ?_
      case hy13x6 =>
        intro w' hS'
        go_simp
        with_reducible rfl
      case ha13x6 =>
        simp only [Act.put, List.setIfInBounds_toArray, List.set_cons_zero, List.set_cons_succ]
        rfl
      refine plan_v (i := 7) (N := (some 99)) (v := ?v13x7) (a' := ?b13x7) rfl rfl F20.out (by rfl) ?hy13x7 ?ha13x7 ?_
      case hy13x7 =>
        intro w' hS'
        go_simp
        with_reducible rfl
      case ha13x7 =>
        simp only [Act.put, List.setIfInBounds_toArray, List.set_cons_zero, List.set_cons_succ]
        rfl
      refine plan_v (i := 8) (N := (some 100)) (v := ?v13x8) (a' := ?b13x8) rfl rfl F20.out (by rfl) ?hy13x8 ?ha13x8 ?_
      case hy13x8 =>
        intro w' hS'
        have x0 := hS'.2.1
        go_simp
        with_reducible rfl
      case ha13x8 =>
        simp only [Act.put, List.setIfInBounds_toArray, List.set_cons_zero, List.set_cons_succ]
        rfl
      refine plan_e (i := 9) rfl (by rfl) (fun K hK => ?_)
      go_simp
      refine (KC.out _).mono ?_
      rintro e w21 ⟨rfl, hb⟩
      have F21 := hide (show Blk w.heap.size 23 (fmtC f) w21 ∧ w21.cell? ⟨b1, o1 + j, none⟩ = some (.int .i64 x) ∧ w21.cell? ⟨b2, o2 + j, none⟩ = some (.int .i64 y) from ⟨F20.out.1.below hb, (hb.cell (p := ⟨b1, o1 + j, none⟩) g3).trans F20.out.2.1, (hb.cell (p := ⟨b2, o2 + j, none⟩) g4).trans F20.out.2.2⟩)
      have B21 := hide (B20.out.trans (hb.mono B20.out.size))
      have R21 := hide (R20.out.trans (hb.mono R20.out.size))
      clear hb
      refine hK _ _ (fun _ => F21.out) ?_
      clear hK K
      refine plan_v (i := 10) (N := (some 102)) (v := ?v13x10) (a' := ?b13x10) rfl rfl F21.out (by rfl) ?hy13x10 ?ha13x10 ?_
      case hy13x10 =>
        intro w' hS'
        go_simp
        with_reducible rfl
      case ha13x10 =>
        simp only [Act.put, List.setIfInBounds_toArray, List.set_cons_zero, List.set_cons_succ]
        rfl
      refine plan_done ?_
      go_wp2_with fail
      go_roundw
      case rel => exact ⟨j + 1, by omega, by go_num, hide F21.out.1, B21, R21⟩
      case measure => simp [intOf]; omega
    · obtain rfl : j = n1 := by omega
      obtain ⟨w30, rfl⟩ : ∃ w30 : World, w30 = wr := ⟨_, rfl⟩
      have F30 := hF
      have B30 := hB
      have hz1 := hz.out
      have hzn : ((N : Int) == 0) = false := by rw [beq_eq_false_iff_ne]; omega
      go_wp2_with fail
      have e1 : IntKind.i64.wrap ((N : Int) - 1) = (M : Int) := by rw [IntWalk.i64_in _ (by omega)]; omega
      have e2 : M ≤ N := by omega
      have e3 : (M : Int) ≤ N := by omega
      clear hz1
      have F31 := hide (show Blk w.heap.size 23 (fmtC f) w30.drew from F30.out)
      have B31 := hide (show Below w.heap.size w w30.drew from B30.out.drew)
      refine plan_region [(0, true), (1, true), (2, true), (3, true), (4, true), (5, true), (6, true), (7, false), (8, true), (9, true), (10, true), (11, true), (12, true), (13, true), (14, true)] (fun w' => Blk w.heap.size 23 (fmtC f) w') [] rfl (by kernel_rfl) (fun _ _ d _ _ h => by cases d <;> exact h) ?_
      generalize w30.drew = w31 at *
      refine plan_v (i := 0) (N := (some 107)) (v := ?v17x0) (a' := ?b17x0) rfl rfl F31.out (by rfl) ?hy17x0 ?ha17x0 ?_
      case hy17x0 =>
        intro w' hS'
        have f0 : w'.cell? ⟨w.heap.size, 0, none⟩ = some (.int .i64 f.bits) := hS'.cell 0
        have f1 : w'.cell? ⟨w.heap.size, 1, none⟩ = some (.int .i64 f.depth) := hS'.cell 1
        have f2 : w'.cell? ⟨w.heap.size, 2, none⟩ = some (.bool f.big) := hS'.cell 2
        have f3 : w'.cell? ⟨w.heap.size, 3, none⟩ = some (.bool f.tru) := hS'.cell 3
        have f4 : w'.cell? ⟨w.heap.size, 4, none⟩ = some (.int .i64 f.rm) := hS'.cell 4
        have f5 : w'.cell? ⟨w.heap.size, 5, none⟩ = some (.int .i64 f.gm) := hS'.cell 5
        have f6 : w'.cell? ⟨w.heap.size, 6, none⟩ = some (.int .i64 f.bm) := hS'.cell 6
        have f7 : w'.cell? ⟨w.heap.size, 7, none⟩ = some (.int .i64 f.rs) := hS'.cell 7
        have f8 : w'.cell? ⟨w.heap.size, 8, none⟩ = some (.int .i64 f.gs) := hS'.cell 8
        have f9 : w'.cell? ⟨w.heap.size, 9, none⟩ = some (.int .i64 f.bs) := hS'.cell 9
        go_simp
        with_reducible rfl
      case ha17x0 =>
        simp only [Act.put, List.setIfInBounds_toArray, List.set_cons_zero, List.set_cons_succ]
        rfl
      refine plan_v (i := 1) (N := (some 108)) (v := ?v17x1) (a' := ?b17x1) rfl rfl F31.out (by rfl) ?hy17x1 ?ha17x1 ?_
      case hy17x1 =>
        intro w' hS'
        go_simp
        with_reducible rfl
      case ha17x1 =>
        simp only [Act.put, List.setIfInBounds_toArray, List.set_cons_zero, List.set_cons_succ]
        rfl
      refine plan_v (i := 2) (N := (some 109)) (v := ?v17x2) (a' := ?b17x2) rfl rfl F31.out (by rfl) ?hy17x2 ?ha17x2 ?_
      case hy17x2 =>
        intro w' hS'
        go_simp
        with_reducible rfl
      case ha17x2 =>
        simp only [Act.put, List.setIfInBounds_toArray, List.set_cons_zero, List.set_cons_succ]
        rfl
      refine plan_v (i := 3) (N := (some 110)) (v := ?v17x3) (a' := ?b17x3) rfl rfl F31.out (by rfl) ?hy17x3 ?ha17x3 ?_
      case hy17x3 =>
        intro w' hS'
        go_simp
        with_reducible rfl
      case ha17x3 =>
        simp only [Act.put, List.setIfInBounds_toArray, List.set_cons_zero, List.set_cons_succ]
        rfl
      refine plan_v (i := 4) (N := (some 111)) (v := ?v17x4) (a' := ?b17x4) rfl rfl F31.out (by rfl) ?hy17x4 ?ha17x4 ?_
      case hy17x4 =>
        intro w' hS'
        go_simp
        with_reducible rfl
      case ha17x4 =>
        simp only [Act.put, List.setIfInBounds_toArray, List.set_cons_zero, List.set_cons_succ]
        rfl
      refine plan_v (i := 5) (N := (some 112)) (v := ?v17x5) (a' := ?b17x5) rfl rfl F31.out (by rfl) ?hy17x5 ?ha17x5 ?_
      case hy17x5 =>
        intro w' hS'
        go_simp
        with_reducible rfl
      case ha17x5 =>
        simp only [Act.put, List.setIfInBounds_toArray, List.set_cons_zero, List.set_cons_succ]
        rfl
      refine plan_v (i := 6) (N := (some 113)) (v := ?v17x6) (a' := ?b17x6) rfl rfl F31.out (by rfl) ?hy17x6 ?ha17x6 ?_
      case hy17x6 =>
        intro w' hS'
        go_simp
        with_reducible rfl
      case ha17x6 =>
        simp only [Act.put, List.setIfInBounds_toArray, List.set_cons_zero, List.set_cons_succ]
        rfl
      refine plan_e (i := 7) rfl (by rfl) (fun K hK => ?_)
      go_simp
      refine (K26b.out _).mono ?_
      rintro e w32 ⟨rfl, hb⟩
      have F32 := hide (F31.out.below hb)
      have B32 := hide (B31.out.trans (hb.mono B31.out.size))
      clear hb
      refine hK _ _ (fun _ => F32.out) ?_
      clear hK K
      refine plan_v (i := 8) (N := (some 106)) (v := ?v17x8) (a' := ?b17x8) rfl rfl F32.out (by rfl) ?hy17x8 ?ha17x8 ?_
      case hy17x8 =>
        intro w' hS'
        go_simp
        with_reducible rfl
      case ha17x8 =>
        simp only [Act.put, List.setIfInBounds_toArray, List.set_cons_zero, List.set_cons_succ]
        rfl
      refine plan_v (i := 9) (N := (some 115)) (v := ?v17x9) (a' := ?b17x9) rfl rfl F32.out (by rfl) ?hy17x9 ?ha17x9 ?_
      case hy17x9 =>
        intro w' hS'
        go_simp
        with_reducible rfl
      case ha17x9 =>
        simp only [Act.put, List.setIfInBounds_toArray, List.set_cons_zero, List.set_cons_succ]
        rfl
      refine plan_v (i := 10) (N := (some 116)) (v := ?v17x10) (a' := ?b17x10) rfl rfl F32.out (by rfl) ?hy17x10 ?ha17x10 ?_
      case hy17x10 =>
        intro w' hS'
        go_simp
        with_reducible rfl
      case ha17x10 =>
        simp only [Act.put, List.setIfInBounds_toArray, List.set_cons_zero, List.set_cons_succ]
        rfl
      refine plan_v (i := 11) (N := (some 117)) (v := ?v17x11) (a' := ?b17x11) rfl rfl F32.out (by rfl) ?hy17x11 ?ha17x11 ?_
      case hy17x11 =>
        intro w' hS'
        go_simp
        with_reducible rfl
      case ha17x11 =>
        simp only [Act.put, List.setIfInBounds_toArray, List.set_cons_zero, List.set_cons_succ]
        rfl
      refine plan_v (i := 12) (N := (some 17)) (v := ?v17x12) (a' := ?b17x12) rfl rfl F32.out (by rfl) ?hy17x12 ?ha17x12 ?_
      case hy17x12 =>
        intro w' hS'
        go_simp
        with_reducible rfl
      case ha17x12 =>
        simp only [Act.put, List.setIfInBounds_toArray, List.set_cons_zero, List.set_cons_succ]
        rfl
      refine plan_v (i := 13) (N := (some 18)) (v := ?v17x13) (a' := ?b17x13) rfl rfl F32.out (by rfl) ?hy17x13 ?ha17x13 ?_
      case hy17x13 =>
        intro w' hS'
        go_simp
        with_reducible rfl
      case ha17x13 =>
        simp only [Act.put, List.setIfInBounds_toArray, List.set_cons_zero, List.set_cons_succ]
        rfl
      refine plan_v (i := 14) (N := (some 19)) (v := ?v17x14) (a' := ?b17x14) rfl rfl F32.out (by rfl) ?hy17x14 ?ha17x14 ?_
      case hy17x14 =>
        intro w' hS'
        go_simp
        with_reducible rfl
      case ha17x14 =>
        simp only [Act.put, List.setIfInBounds_toArray, List.set_cons_zero, List.set_cons_succ]
        rfl
      refine plan_done ?_
      go_wp2_with fail
      go_ret
      exact ⟨rfl, B32.out⟩

set_option maxHeartbeats 6400000 in
set_option maxRecDepth 100000 in
theorem law4_zero (f : Fmt) (a1 : Option Addr) (n1 c1 k N : Nat) (zs qs : List Int) (a b : Int) (A t : ByteArray) (w : World) (h1 : n1 ≤ 400) (h2 : t.size ≤ 400) (hI : Hid (IntsIn w.heap.size w a1 n1 zs)) (hA : A.size = N) (hN : (n1 : Int) * k = N) (hN2 : N ≤ 1600) (hab : a * b = n1)
    (hz : Hid (N = 0))
    (K24 : Hid (∀ w, Calls Try.prog 24 #[fmtV f, .int .i64 a, .int .i64 b] w fun e w' => e = .returned (.bool true) ∧ Below w.heap.size w w'))
    (K27 : Hid (∀ w, Calls Try.prog 27 #[fmtV f] w fun e w' => e = .returned (.int .i64 k) ∧ Below w.heap.size w w'))
    (K25 : Hid (∀ w, IntsIn w.heap.size w a1 n1 zs → Calls Try.prog 25 #[fmtV f, .slice a1 n1 c1] w fun e w' => e = .returned (.string A) ∧ Below w.heap.size w w'))
    (K26 : Hid (∀ w, Calls Try.prog 26 #[fmtV f, .int .i64 a, .int .i64 b, .string (A ++ t)] w fun e w' => ∃ a c, e = .returned (.tuple #[.slice a n1 c, .int .i64 N, .int .i64 0]) ∧ IntsIn w'.heap.size w' a n1 qs ∧ Below w.heap.size w w'))
    (K28 : Hid (∀ j, j < n1 → ∀ w, Calls Try.prog 28 #[fmtV f, .int .i64 (zs[j]?.getD 0)] w fun e w' => e = .returned (.int .i64 (qs[j]?.getD 0)) ∧ Below w.heap.size w w'))
    : Calls Try.prog 4 #[fmtV f, .int .i64 a, .int .i64 b, .slice a1 n1 c1, .string t] w fun e w' => e = .returned (.bool true) ∧ Below w.heap.size w w' := by
  have hn1 : (n1 : Int) ≤ 400 := by omega
  have hs1 : (t.size : Int) ≤ 400 := by omega
  have hlt : (9223372036854775807 < N + t.size) = False := eq_false (by omega)
  have F0 := hide (Blk.new w 23 (fmtC f))
  have B0 := hide ((Below.refl w.heap.size w).alloc (Nat.le_refl _) (.cells (fmtC f) 23))
  go_enter Try.func4, Try.ntmps4
  go_upto_region 1 with fail
  generalize w.alloc (.cells (fmtC f) 23) = w0 at *
  go_wp2_with fail
  refine (works23_any _).mono ?_
  rintro e w1 ⟨rfl, hb⟩
  have F1 := hide (F0.out.below hb)
  have B1 := hide (B0.out.trans (hb.mono B0.out.size))
  clear hb
  have f0 : w1.cell? ⟨w.heap.size, 0, none⟩ = some (.int .i64 f.bits) := F1.out.cell 0
  have f1 : w1.cell? ⟨w.heap.size, 1, none⟩ = some (.int .i64 f.depth) := F1.out.cell 1
  have f2 : w1.cell? ⟨w.heap.size, 2, none⟩ = some (.bool f.big) := F1.out.cell 2
  have f3 : w1.cell? ⟨w.heap.size, 3, none⟩ = some (.bool f.tru) := F1.out.cell 3
  have f4 : w1.cell? ⟨w.heap.size, 4, none⟩ = some (.int .i64 f.rm) := F1.out.cell 4
  have f5 : w1.cell? ⟨w.heap.size, 5, none⟩ = some (.int .i64 f.gm) := F1.out.cell 5
  have f6 : w1.cell? ⟨w.heap.size, 6, none⟩ = some (.int .i64 f.bm) := F1.out.cell 6
  have f7 : w1.cell? ⟨w.heap.size, 7, none⟩ = some (.int .i64 f.rs) := F1.out.cell 7
  have f8 : w1.cell? ⟨w.heap.size, 8, none⟩ = some (.int .i64 f.gs) := F1.out.cell 8
  have f9 : w1.cell? ⟨w.heap.size, 9, none⟩ = some (.int .i64 f.bs) := F1.out.cell 9
  go_wp2_with fail
  refine (K24.out _).mono ?_
  rintro e w2 ⟨rfl, hb⟩
  have F2 := hide (F1.out.below hb)
  have B2 := hide (B1.out.trans (hb.mono B1.out.size))
  clear hb
  clear f0 f1 f2 f3 f4 f5 f6 f7 f8 f9
  have f0 : w2.cell? ⟨w.heap.size, 0, none⟩ = some (.int .i64 f.bits) := F2.out.cell 0
  have f1 : w2.cell? ⟨w.heap.size, 1, none⟩ = some (.int .i64 f.depth) := F2.out.cell 1
  have f2 : w2.cell? ⟨w.heap.size, 2, none⟩ = some (.bool f.big) := F2.out.cell 2
  have f3 : w2.cell? ⟨w.heap.size, 3, none⟩ = some (.bool f.tru) := F2.out.cell 3
  have f4 : w2.cell? ⟨w.heap.size, 4, none⟩ = some (.int .i64 f.rm) := F2.out.cell 4
  have f5 : w2.cell? ⟨w.heap.size, 5, none⟩ = some (.int .i64 f.gm) := F2.out.cell 5
  have f6 : w2.cell? ⟨w.heap.size, 6, none⟩ = some (.int .i64 f.bm) := F2.out.cell 6
  have f7 : w2.cell? ⟨w.heap.size, 7, none⟩ = some (.int .i64 f.rs) := F2.out.cell 7
  have f8 : w2.cell? ⟨w.heap.size, 8, none⟩ = some (.int .i64 f.gs) := F2.out.cell 8
  have f9 : w2.cell? ⟨w.heap.size, 9, none⟩ = some (.int .i64 f.bs) := F2.out.cell 9
  go_wp2_with fail
  refine (K25.out _ (intsIn_mono (hI.out.below B2.out) B2.out.size)).mono ?_
  rintro e w3 ⟨rfl, hb⟩
  have F3 := hide (F2.out.below hb)
  have B3 := hide (B2.out.trans (hb.mono B2.out.size))
  clear hb
  clear f0 f1 f2 f3 f4 f5 f6 f7 f8 f9
  have f0 : w3.cell? ⟨w.heap.size, 0, none⟩ = some (.int .i64 f.bits) := F3.out.cell 0
  have f1 : w3.cell? ⟨w.heap.size, 1, none⟩ = some (.int .i64 f.depth) := F3.out.cell 1
  have f2 : w3.cell? ⟨w.heap.size, 2, none⟩ = some (.bool f.big) := F3.out.cell 2
  have f3 : w3.cell? ⟨w.heap.size, 3, none⟩ = some (.bool f.tru) := F3.out.cell 3
  have f4 : w3.cell? ⟨w.heap.size, 4, none⟩ = some (.int .i64 f.rm) := F3.out.cell 4
  have f5 : w3.cell? ⟨w.heap.size, 5, none⟩ = some (.int .i64 f.gm) := F3.out.cell 5
  have f6 : w3.cell? ⟨w.heap.size, 6, none⟩ = some (.int .i64 f.bm) := F3.out.cell 6
  have f7 : w3.cell? ⟨w.heap.size, 7, none⟩ = some (.int .i64 f.rs) := F3.out.cell 7
  have f8 : w3.cell? ⟨w.heap.size, 8, none⟩ = some (.int .i64 f.gs) := F3.out.cell 8
  have f9 : w3.cell? ⟨w.heap.size, 9, none⟩ = some (.int .i64 f.bs) := F3.out.cell 9
  go_wp2_with fail
  refine (K26.out _).mono ?_
  rintro e w4 ⟨a4, c4, rfl, hp4, hb⟩
  have F4 := hide (F3.out.below hb)
  have B4 := hide (B3.out.trans (hb.mono B3.out.size))
  have P4 := hide hp4
  clear hp4
  clear hb
  clear f0 f1 f2 f3 f4 f5 f6 f7 f8 f9
  have f0 : w4.cell? ⟨w.heap.size, 0, none⟩ = some (.int .i64 f.bits) := F4.out.cell 0
  have f1 : w4.cell? ⟨w.heap.size, 1, none⟩ = some (.int .i64 f.depth) := F4.out.cell 1
  have f2 : w4.cell? ⟨w.heap.size, 2, none⟩ = some (.bool f.big) := F4.out.cell 2
  have f3 : w4.cell? ⟨w.heap.size, 3, none⟩ = some (.bool f.tru) := F4.out.cell 3
  have f4 : w4.cell? ⟨w.heap.size, 4, none⟩ = some (.int .i64 f.rm) := F4.out.cell 4
  have f5 : w4.cell? ⟨w.heap.size, 5, none⟩ = some (.int .i64 f.gm) := F4.out.cell 5
  have f6 : w4.cell? ⟨w.heap.size, 6, none⟩ = some (.int .i64 f.bm) := F4.out.cell 6
  have f7 : w4.cell? ⟨w.heap.size, 7, none⟩ = some (.int .i64 f.rs) := F4.out.cell 7
  have f8 : w4.cell? ⟨w.heap.size, 8, none⟩ = some (.int .i64 f.gs) := F4.out.cell 8
  have f9 : w4.cell? ⟨w.heap.size, 9, none⟩ = some (.int .i64 f.bs) := F4.out.cell 9
  go_wp2_with fail
  refine (K27.out _).mono ?_
  rintro e w5 ⟨rfl, hb⟩
  have F5 := hide (F4.out.below hb)
  have B5 := hide (B4.out.trans (hb.mono B4.out.size))
  have P5 := hide (ints_keep P4.out hb)
  clear hb
  clear f0 f1 f2 f3 f4 f5 f6 f7 f8 f9
  go_wp2_with fail
  go_loopw [16] (fun i wr => ∃ j : Nat, j ≤ n1 ∧ i = .int .i64 j ∧ Hid (Blk w.heap.size 23 (fmtC f) wr) ∧ Hid (Below w.heap.size w wr) ∧ Hid (Below w5.heap.size w5 wr)) (fun i _ => n1 - (intOf i).toNat)
  case atStart => exact ⟨0, by omega, rfl, F5, B5, hide (Below.refl _ _)⟩
  case round =>
    obtain ⟨j, hj, rfl, hF, hB, hR⟩ := hrel
    by_cases hlt : j < n1
    · obtain ⟨b1, o1, rfl, hb1, hx⟩ := hI.out.2.resolve_left (by omega)
      obtain ⟨b2, o2, rfl, hb2, hy⟩ := P5.out.2.resolve_left (by omega)
      have X := hide ((hB.out.cell (p := ⟨b1, o1 + j, none⟩) hb1).trans (hx j hlt))
      have Y := hide ((hR.out.cell (p := ⟨b2, o2 + j, none⟩) hb2).trans (hy j hlt))
      have KC := hide (K28.out j hlt)
      have g1 : b1 < wr.heap.size := Nat.lt_of_lt_of_le hb1 hB.out.size
      have g2 : b2 < wr.heap.size := Nat.lt_of_lt_of_le hb2 hR.out.size
      clear hx hy hb1 hb2
      generalize zs[j]?.getD 0 = x at *
      generalize qs[j]?.getD 0 = y at *
      go_wp2_with fail
      have F20 := hide (show Blk w.heap.size 23 (fmtC f) wr.drew ∧ wr.drew.cell? ⟨b1, o1 + j, none⟩ = some (.int .i64 x) ∧ wr.drew.cell? ⟨b2, o2 + j, none⟩ = some (.int .i64 y) from ⟨hF.out, X.out, Y.out⟩)
      have B20 := hide (show Below w.heap.size w wr.drew from hB.out.drew)
      have R20 := hide (show Below w5.heap.size w5 wr.drew from hR.out.drew)
      have g3 : b1 < wr.drew.heap.size := g1
      have g4 : b2 < wr.drew.heap.size := g2
      clear X Y g1 g2
      refine plan_region [(0, true), (1, true), (2, true), (3, true), (4, true), (5, true), (6, true), (7, true), (8, true), (9, false), (10, true)] (fun w' => Blk w.heap.size 23 (fmtC f) w' ∧ w'.cell? ⟨b1, o1 + j, none⟩ = some (.int .i64 x) ∧ w'.cell? ⟨b2, o2 + j, none⟩ = some (.int .i64 y)) [] rfl (by kernel_rfl) (fun _ _ d _ _ h => by cases d <;> exact h) ?_
      generalize wr.drew = w20 at *
      refine plan_v (i := 0) (N := (some 92)) (v := ?v13x0) (a' := ?b13x0) rfl rfl F20.out (by rfl) ?hy13x0 ?ha13x0 ?_
      case hy13x0 =>
        intro w' hS'
        go_simp
        with_reducible rfl
      case ha13x0 =>
        simp only [Act.put, List.setIfInBounds_toArray, List.set_cons_zero, List.set_cons_succ]
        rfl
      refine plan_v (i := 1) (N := (some 93)) (v := ?v13x1) (a' := ?b13x1) rfl rfl F20.out (by rfl) ?hy13x1 ?ha13x1 ?_
      case hy13x1 =>
        intro w' hS'
        go_simp
        with_reducible rfl
      case ha13x1 =>
        simp only [Act.put, List.setIfInBounds_toArray, List.set_cons_zero, List.set_cons_succ]
        rfl
      refine plan_v (i := 2) (N := (some 94)) (v := ?v13x2) (a' := ?b13x2) rfl rfl F20.out (by rfl) ?hy13x2 ?ha13x2 ?_
      case hy13x2 =>
        intro w' hS'
        go_simp
        with_reducible rfl
      case ha13x2 =>
        simp only [Act.put, List.setIfInBounds_toArray, List.set_cons_zero, List.set_cons_succ]
        rfl
      refine plan_v (i := 3) (N := (some 95)) (v := ?v13x3) (a' := ?b13x3) rfl rfl F20.out (by rfl) ?hy13x3 ?ha13x3 ?_
      case hy13x3 =>
        intro w' hS'
        have x0 := hS'.2.2
        go_simp
        with_reducible rfl
      case ha13x3 =>
        simp only [Act.put, List.setIfInBounds_toArray, List.set_cons_zero, List.set_cons_succ]
        rfl
      refine plan_v (i := 4) (N := (some 96)) (v := ?v13x4) (a' := ?b13x4) rfl rfl F20.out (by rfl) ?hy13x4 ?ha13x4 ?_
      case hy13x4 =>
        intro w' hS'
        have f0 : w'.cell? ⟨w.heap.size, 0, none⟩ = some (.int .i64 f.bits) := hS'.1.cell 0
        have f1 : w'.cell? ⟨w.heap.size, 1, none⟩ = some (.int .i64 f.depth) := hS'.1.cell 1
        have f2 : w'.cell? ⟨w.heap.size, 2, none⟩ = some (.bool f.big) := hS'.1.cell 2
        have f3 : w'.cell? ⟨w.heap.size, 3, none⟩ = some (.bool f.tru) := hS'.1.cell 3
        have f4 : w'.cell? ⟨w.heap.size, 4, none⟩ = some (.int .i64 f.rm) := hS'.1.cell 4
        have f5 : w'.cell? ⟨w.heap.size, 5, none⟩ = some (.int .i64 f.gm) := hS'.1.cell 5
        have f6 : w'.cell? ⟨w.heap.size, 6, none⟩ = some (.int .i64 f.bm) := hS'.1.cell 6
        have f7 : w'.cell? ⟨w.heap.size, 7, none⟩ = some (.int .i64 f.rs) := hS'.1.cell 7
        have f8 : w'.cell? ⟨w.heap.size, 8, none⟩ = some (.int .i64 f.gs) := hS'.1.cell 8
        have f9 : w'.cell? ⟨w.heap.size, 9, none⟩ = some (.int .i64 f.bs) := hS'.1.cell 9
        go_simp
        with_reducible rfl
      case ha13x4 =>
        simp only [Act.put, List.setIfInBounds_toArray, List.set_cons_zero, List.set_cons_succ]
        rfl
      refine plan_v (i := 5) (N := (some 97)) (v := ?v13x5) (a' := ?b13x5) rfl rfl F20.out (by rfl) ?hy13x5 ?ha13x5 ?_
      case hy13x5 =>
        intro w' hS'
        go_simp
        with_reducible rfl
      case ha13x5 =>
        simp only [Act.put, List.setIfInBounds_toArray, List.set_cons_zero, List.set_cons_succ]
        rfl
      refine plan_v (i := 6) (N := (some 98)) (v := ?v13x6) (a' := ?b13x6) rfl rfl F20.out (by rfl) ?hy13x6 ?ha13x6 ?_
      case hy13x6 =>
        intro w' hS'
        go_simp
        with_reducible rfl
      case ha13x6 =>
        simp only [Act.put, List.setIfInBounds_toArray, List.set_cons_zero, List.set_cons_succ]
        rfl
      refine plan_v (i := 7) (N := (some 99)) (v := ?v13x7) (a' := ?b13x7) rfl rfl F20.out (by rfl) ?hy13x7 ?ha13x7 ?_
      case hy13x7 =>
        intro w' hS'
        go_simp
        with_reducible rfl
      case ha13x7 =>
        simp only [Act.put, List.setIfInBounds_toArray, List.set_cons_zero, List.set_cons_succ]
        rfl
      refine plan_v (i := 8) (N := (some 100)) (v := ?v13x8) (a' := ?b13x8) rfl rfl F20.out (by rfl) ?hy13x8 ?ha13x8 ?_
      case hy13x8 =>
        intro w' hS'
        have x0 := hS'.2.1
        go_simp
        with_reducible rfl
      case ha13x8 =>
        simp only [Act.put, List.setIfInBounds_toArray, List.set_cons_zero, List.set_cons_succ]
        rfl
      refine plan_e (i := 9) rfl (by rfl) (fun K hK => ?_)
      go_simp
      refine (KC.out _).mono ?_
      rintro e w21 ⟨rfl, hb⟩
      have F21 := hide (show Blk w.heap.size 23 (fmtC f) w21 ∧ w21.cell? ⟨b1, o1 + j, none⟩ = some (.int .i64 x) ∧ w21.cell? ⟨b2, o2 + j, none⟩ = some (.int .i64 y) from ⟨F20.out.1.below hb, (hb.cell (p := ⟨b1, o1 + j, none⟩) g3).trans F20.out.2.1, (hb.cell (p := ⟨b2, o2 + j, none⟩) g4).trans F20.out.2.2⟩)
      have B21 := hide (B20.out.trans (hb.mono B20.out.size))
      have R21 := hide (R20.out.trans (hb.mono R20.out.size))
      clear hb
      refine hK _ _ (fun _ => F21.out) ?_
      clear hK K
      refine plan_v (i := 10) (N := (some 102)) (v := ?v13x10) (a' := ?b13x10) rfl rfl F21.out (by rfl) ?hy13x10 ?ha13x10 ?_
      case hy13x10 =>
        intro w' hS'
        go_simp
        with_reducible rfl
      case ha13x10 =>
        simp only [Act.put, List.setIfInBounds_toArray, List.set_cons_zero, List.set_cons_succ]
        rfl
      refine plan_done ?_
      go_wp2_with fail
      go_roundw
      case rel => exact ⟨j + 1, by omega, by go_num, hide F21.out.1, B21, R21⟩
      case measure => simp [intOf]; omega
    · obtain rfl : j = n1 := by omega
      obtain ⟨w30, rfl⟩ : ∃ w30 : World, w30 = wr := ⟨_, rfl⟩
      have F30 := hF
      have B30 := hB
      have hzn : ((N : Int) == 0) = true := by rw [beq_iff_eq, hz.out]; rfl
      go_wp2_with fail
      go_ret
      exact ⟨rfl, B30.out⟩

set_option maxHeartbeats 6400000 in
set_option maxRecDepth 100000 in
theorem law4_l1 (f : Fmt) (a1 : Option Addr) (n1 c1 : Nat) (a b : Int) (t : ByteArray) (w : World) (h : 400 < n1) :
    Calls Try.prog 4 #[fmtV f, .int .i64 a, .int .i64 b, .slice a1 n1 c1, .string t] w fun e w' => e = .returned (.bool true) ∧ Below w.heap.size w w' := by
  have h1 : (400 : Int) < n1 := by omega
  have B0 := hide ((Below.refl w.heap.size w).alloc (Nat.le_refl _) (.cells (fmtC f) 23))
  go_enter Try.func4, Try.ntmps4
  go_upto_region 1 with fail
  generalize w.alloc (.cells (fmtC f) 23) = w0 at *
  go_wp2_with fail
  refine (works23_any _).mono ?_
  rintro e w1 ⟨rfl, hb⟩
  have B1 := hide (B0.out.trans (hb.mono B0.out.size))
  clear hb
  go_wp2_with fail
  go_ret
  exact ⟨rfl, B1.out⟩

set_option maxHeartbeats 6400000 in
set_option maxRecDepth 100000 in
theorem law4_l2 (f : Fmt) (a1 : Option Addr) (n1 c1 : Nat) (a b : Int) (t : ByteArray) (w : World) (h : n1 ≤ 400) (h2 : 400 < t.size) :
    Calls Try.prog 4 #[fmtV f, .int .i64 a, .int .i64 b, .slice a1 n1 c1, .string t] w fun e w' => e = .returned (.bool true) ∧ Below w.heap.size w w' := by
  have h3 : (n1 : Int) ≤ 400 := by omega
  have h4 : (400 : Int) < t.size := by omega
  have B0 := hide ((Below.refl w.heap.size w).alloc (Nat.le_refl _) (.cells (fmtC f) 23))
  go_enter Try.func4, Try.ntmps4
  go_upto_region 1 with fail
  generalize w.alloc (.cells (fmtC f) 23) = w0 at *
  go_wp2_with fail
  refine (works23_any _).mono ?_
  rintro e w1 ⟨rfl, hb⟩
  have B1 := hide (B0.out.trans (hb.mono B0.out.size))
  clear hb
  go_wp2_with fail
  go_ret
  exact ⟨rfl, B1.out⟩

set_option maxHeartbeats 6400000 in
set_option maxRecDepth 100000 in
theorem law4_no (f : Fmt) (a1 : Option Addr) (n1 c1 : Nat) (a b : Int) (t : ByteArray) (w : World) (h : n1 ≤ 400) (h2 : t.size ≤ 400)
    (K24 : Hid (∀ w, Calls Try.prog 24 #[fmtV f, .int .i64 a, .int .i64 b] w fun e w' => e = .returned (.bool false) ∧ Below w.heap.size w w'))
 :
    Calls Try.prog 4 #[fmtV f, .int .i64 a, .int .i64 b, .slice a1 n1 c1, .string t] w fun e w' => e = .returned (.bool true) ∧ Below w.heap.size w w' := by
  have h3 : (n1 : Int) ≤ 400 := by omega
  have h4 : (t.size : Int) ≤ 400 := by omega
  have F0 := hide (Blk.new w 23 (fmtC f))
  have B0 := hide ((Below.refl w.heap.size w).alloc (Nat.le_refl _) (.cells (fmtC f) 23))
  go_enter Try.func4, Try.ntmps4
  go_upto_region 1 with fail
  generalize w.alloc (.cells (fmtC f) 23) = w0 at *
  go_wp2_with fail
  refine (works23_any _).mono ?_
  rintro e w1 ⟨rfl, hb⟩
  have F1 := hide (F0.out.below hb)
  have B1 := hide (B0.out.trans (hb.mono B0.out.size))
  clear hb
  have f0 : w1.cell? ⟨w.heap.size, 0, none⟩ = some (.int .i64 f.bits) := F1.out.cell 0
  have f1 : w1.cell? ⟨w.heap.size, 1, none⟩ = some (.int .i64 f.depth) := F1.out.cell 1
  have f2 : w1.cell? ⟨w.heap.size, 2, none⟩ = some (.bool f.big) := F1.out.cell 2
  have f3 : w1.cell? ⟨w.heap.size, 3, none⟩ = some (.bool f.tru) := F1.out.cell 3
  have f4 : w1.cell? ⟨w.heap.size, 4, none⟩ = some (.int .i64 f.rm) := F1.out.cell 4
  have f5 : w1.cell? ⟨w.heap.size, 5, none⟩ = some (.int .i64 f.gm) := F1.out.cell 5
  have f6 : w1.cell? ⟨w.heap.size, 6, none⟩ = some (.int .i64 f.bm) := F1.out.cell 6
  have f7 : w1.cell? ⟨w.heap.size, 7, none⟩ = some (.int .i64 f.rs) := F1.out.cell 7
  have f8 : w1.cell? ⟨w.heap.size, 8, none⟩ = some (.int .i64 f.gs) := F1.out.cell 8
  have f9 : w1.cell? ⟨w.heap.size, 9, none⟩ = some (.int .i64 f.bs) := F1.out.cell 9
  go_wp2_with fail
  refine (K24.out _).mono ?_
  rintro e w2 ⟨rfl, hb⟩
  have B2 := hide (B1.out.trans (hb.mono B1.out.size))
  clear hb
  clear f0 f1 f2 f3 f4 f5 f6 f7 f8 f9
  go_wp2_with fail
  go_ret
  exact ⟨rfl, B2.out⟩

set_option maxHeartbeats 6400000 in
set_option maxRecDepth 100000 in
theorem law4_ne (f : Fmt) (a1 : Option Addr) (n1 c1 : Nat) (a b : Int) (t : ByteArray) (w : World) (p : Int) (h : n1 ≤ 400) (h2 : t.size ≤ 400) (hp : a * b = p) (hp0 : 0 ≤ p) (hp1 : p ≤ 16777216) (hne : (n1 : Int) ≠ p)
    (K24 : Hid (∀ w, Calls Try.prog 24 #[fmtV f, .int .i64 a, .int .i64 b] w fun e w' => e = .returned (.bool true) ∧ Below w.heap.size w w'))
 :
    Calls Try.prog 4 #[fmtV f, .int .i64 a, .int .i64 b, .slice a1 n1 c1, .string t] w fun e w' => e = .returned (.bool true) ∧ Below w.heap.size w w' := by
  have h3 : (n1 : Int) ≤ 400 := by omega
  have h4 : (t.size : Int) ≤ 400 := by omega
  have hq : ((n1 : Int) != p) = true := bne_iff_ne.2 hne
  clear hne
  have F0 := hide (Blk.new w 23 (fmtC f))
  have B0 := hide ((Below.refl w.heap.size w).alloc (Nat.le_refl _) (.cells (fmtC f) 23))
  go_enter Try.func4, Try.ntmps4
  go_upto_region 1 with fail
  generalize w.alloc (.cells (fmtC f) 23) = w0 at *
  go_wp2_with fail
  refine (works23_any _).mono ?_
  rintro e w1 ⟨rfl, hb⟩
  have F1 := hide (F0.out.below hb)
  have B1 := hide (B0.out.trans (hb.mono B0.out.size))
  clear hb
  have f0 : w1.cell? ⟨w.heap.size, 0, none⟩ = some (.int .i64 f.bits) := F1.out.cell 0
  have f1 : w1.cell? ⟨w.heap.size, 1, none⟩ = some (.int .i64 f.depth) := F1.out.cell 1
  have f2 : w1.cell? ⟨w.heap.size, 2, none⟩ = some (.bool f.big) := F1.out.cell 2
  have f3 : w1.cell? ⟨w.heap.size, 3, none⟩ = some (.bool f.tru) := F1.out.cell 3
  have f4 : w1.cell? ⟨w.heap.size, 4, none⟩ = some (.int .i64 f.rm) := F1.out.cell 4
  have f5 : w1.cell? ⟨w.heap.size, 5, none⟩ = some (.int .i64 f.gm) := F1.out.cell 5
  have f6 : w1.cell? ⟨w.heap.size, 6, none⟩ = some (.int .i64 f.bm) := F1.out.cell 6
  have f7 : w1.cell? ⟨w.heap.size, 7, none⟩ = some (.int .i64 f.rs) := F1.out.cell 7
  have f8 : w1.cell? ⟨w.heap.size, 8, none⟩ = some (.int .i64 f.gs) := F1.out.cell 8
  have f9 : w1.cell? ⟨w.heap.size, 9, none⟩ = some (.int .i64 f.bs) := F1.out.cell 9
  go_wp2_with fail
  refine (K24.out _).mono ?_
  rintro e w2 ⟨rfl, hb⟩
  have B2 := hide (B1.out.trans (hb.mono B1.out.size))
  clear hb
  clear f0 f1 f2 f3 f4 f5 f6 f7 f8 f9
  go_wp2_with fail
  go_ret
  exact ⟨rfl, B2.out⟩

/-- miradorlaw16.PlainBack. -/
theorem law4_any (f : Fmt) (a b : Int) (a1 : Option Addr) (n1 c1 : Nat) (zs : List Int) (t : ByteArray) (w : World) (hf : f.fit) (hI : IntsIn w.heap.size w a1 n1 zs) :
    Calls Try.prog 4 #[fmtV f, .int .i64 a, .int .i64 b, .slice a1 n1 c1, .string t] w fun e w' => e = .returned (.bool true) ∧ Below w.heap.size w w' := by
  by_cases h1 : n1 ≤ 400
  · by_cases h2 : t.size ≤ 400
    · have K24 := fun w => fits_any f a b w hf
      cases h : fitsB f a b with
      | false =>
        rw [h] at K24
        exact law4_no f a1 n1 c1 a b t w h1 h2 K24
      | true =>
        rw [h] at K24
        obtain ⟨hv, ha, hb⟩ := fits_parts h
        obtain ⟨m, hm, hl⟩ := area ha hb
        by_cases hmn : m = n1
        · subst hmn
          have hlz := hI.1
          have z1 : (rawB f zs).size = m * sizeN f := by rw [raw_size, hlz]
          have hk := size_le f
          have p1 : m * sizeN f ≤ 400 * 4 := Nat.mul_le_mul h1 hk
          have K25 := fun w h => raw_any f a1 m c1 zs w hf (by omega) h
          have K26 : ∀ w, Calls Try.prog 26 #[fmtV f, .int .i64 a, .int .i64 b, .string (rawB f zs ++ t)] w fun e w' => ∃ a c, e = .returned (.tuple #[.slice a m c, .int .i64 ((m * sizeN f : Nat) : Int), .int .i64 0]) ∧ IntsIn w'.heap.size w' a m (zs.map (quantV f)) ∧ Below w.heap.size w w' := fun w => by
            refine (rawOf_yes f a b m (rawB f zs ++ t) w hf h hm (by rw [ByteArray.size_append, z1]; omega) (by rw [ByteArray.size_append, z1]; omega)).mono ?_
            rintro e w' ⟨v, rfl, ho, hb⟩
            have hback := raw_back hv zs t
            rw [hlz] at hback
            rw [hback] at ho
            obtain ⟨a, c, rfl⟩ := own_slice ho
            exact ⟨a, c, rfl, own_ints ho, hb⟩
          have K28 : ∀ j, j < m → ∀ w, Calls Try.prog 28 #[fmtV f, .int .i64 (zs[j]?.getD 0)] w fun e w' => e = .returned (.int .i64 ((zs.map (quantV f))[j]?.getD 0)) ∧ Below w.heap.size w w' := fun j hj w => by
            have e : (zs.map (quantV f))[j]?.getD 0 = quantV f (zs[j]?.getD 0) := by
              rw [List.getElem?_map, List.getElem?_eq_getElem (by omega)]
              rfl
            rw [e]
            exact quant_any f _ w hv
          have hN : (m : Int) * (sizeN f : Int) = ((m * sizeN f : Nat) : Int) := by rw [Int.natCast_mul]
          obtain ⟨hs1, hs2⟩ := size_valid hv
          by_cases hz : m * sizeN f = 0
          · exact law4_zero f a1 m c1 (sizeN f) (m * sizeN f) zs _ a b (rawB f zs) t w h1 h2 hI z1 hN (by omega) hm hz K24 (fun w => size_any f w hf) K25 K26 K28
          · obtain ⟨M, hM⟩ : ∃ M, M + 1 = m * sizeN f := ⟨m * sizeN f - 1, by omega⟩
            have zM : ((rawB f zs).extract 0 M).size = M := by rw [ByteArray.size_extract, z1]; omega
            exact law4_yes f a1 m c1 (sizeN f) (m * sizeN f) M zs _ a b (rawB f zs) t w h1 h2 hI z1 hN (by omega) hm hM K24 (fun w => size_any f w hf) K25 K26 K28
              (fun w => rawOf_short f a b m (sizeN f) (m * sizeN f) _ w hm (by omega) (by simp) (by omega) (by omega) (by omega) K24 (fun w => size_any f w hf))
        · exact law4_ne f a1 n1 c1 a b t w m h1 h2 hm (by omega) (by omega) (by omega) K24
    · exact law4_l2 f a1 n1 c1 a b t w h1 (by omega)
  · exact law4_l1 f a1 n1 c1 a b t w (by omega)

end Go.Proofs.Ytodlpofpeoiedaa
