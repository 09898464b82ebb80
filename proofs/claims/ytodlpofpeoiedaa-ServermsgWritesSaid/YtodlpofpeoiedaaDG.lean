/-
  What the document writes: kinds of security, a start, a head, a message, how security came out.
-/
import Derived.Test.YtodlpofpeoiedaaDF
namespace Go.Proofs.Ytodlpofpeoiedaa
open Go.RowKit Go.Sort

set_option maxHeartbeats 3200000 in
set_option maxRecDepth 100000 in
theorem rbytes52_x (x y : Int) (f : Fmt) (nm T U : ByteArray) (q : Bool) (w : World) (hnm : nm.size ≤ 109951162777) (hT : Hid ((⟨#[]⟩ : ByteArray) ++ putS 2 x ++ putS 2 y = T)) (hq : Hid (((false && (putE 2 x == 0)) && (putE 2 y == 0)) = q)) (hz : T.size ≤ 100) (hU : U.size ≤ 100) (hx : (x != 0) = false)
    (K18 : Hid (∀ w, Calls Try.prog 18 #[fmtV f] w fun e w' => e = .returned (.bool true) ∧ Below w.heap.size w w'))
    (K20 : Hid (∀ w, Calls Try.prog 20 #[fmtV f] w fun e w' => e = .returned (.string U) ∧ Below w.heap.size w w'))
    : Calls Try.prog 52 #[.agg (staC x y f nm)] w fun e w' => e = .returned (.tuple #[.string (rS (q && (putE 4 nm.size == 0) && decide ((nm.size : Int) ≤ 4096)) (T ++ U ++ putS 4 nm.size ++ nm)), .int .i64 (rE (q && (putE 4 nm.size == 0) && decide ((nm.size : Int) ≤ 4096)))]) ∧ Below w.heap.size w w' := by
  have F := hide (Blk.new w 71 #[.int .i64 x, .int .i64 y, .int .i64 f.bits, .int .i64 f.depth, .bool f.big, .bool f.tru, .int .i64 f.rm, .int .i64 f.gm, .int .i64 f.bm, .int .i64 f.rs, .int .i64 f.gs, .int .i64 f.bs, .string nm])
  have B := hide ((Below.refl w.heap.size w).alloc (Nat.le_refl _) (.cells #[.int .i64 x, .int .i64 y, .int .i64 f.bits, .int .i64 f.depth, .bool f.big, .bool f.tru, .int .i64 f.rm, .int .i64 f.gm, .int .i64 f.bm, .int .i64 f.rs, .int .i64 f.gs, .int .i64 f.bs, .string nm] 71))
  go_enter Try.func52, Try.ntmps52
  go_upto_region 1 with fail
  generalize w.alloc (.cells #[.int .i64 x, .int .i64 y, .int .i64 f.bits, .int .i64 f.depth, .bool f.big, .bool f.tru, .int .i64 f.rm, .int .i64 f.gm, .int .i64 f.bm, .int .i64 f.rs, .int .i64 f.gs, .int .i64 f.bs, .string nm] 71) = v at *
  have g2 : v.cell? ⟨w.heap.size, 2, none⟩ = some (.int .i64 f.bits) := F.out.cell 2
  have g3 : v.cell? ⟨w.heap.size, 3, none⟩ = some (.int .i64 f.depth) := F.out.cell 3
  have g4 : v.cell? ⟨w.heap.size, 4, none⟩ = some (.bool f.big) := F.out.cell 4
  have g5 : v.cell? ⟨w.heap.size, 5, none⟩ = some (.bool f.tru) := F.out.cell 5
  have g6 : v.cell? ⟨w.heap.size, 6, none⟩ = some (.int .i64 f.rm) := F.out.cell 6
  have g7 : v.cell? ⟨w.heap.size, 7, none⟩ = some (.int .i64 f.gm) := F.out.cell 7
  have g8 : v.cell? ⟨w.heap.size, 8, none⟩ = some (.int .i64 f.bm) := F.out.cell 8
  have g9 : v.cell? ⟨w.heap.size, 9, none⟩ = some (.int .i64 f.rs) := F.out.cell 9
  have g10 : v.cell? ⟨w.heap.size, 10, none⟩ = some (.int .i64 f.gs) := F.out.cell 10
  have g11 : v.cell? ⟨w.heap.size, 11, none⟩ = some (.int .i64 f.bs) := F.out.cell 11
  go_wp2_with fail
  refine (K18.out _).mono ?_
  rintro e v2 ⟨rfl, hb⟩
  have F2 := hide (F.out.below hb)
  have B2 := hide (B.out.trans (hb.mono B.out.size))
  clear hb g2 g3 g4 g5 g6 g7 g8 g9 g10 g11 F B
  obtain ⟨v, hv⟩ : ∃ v : World, v = v2 := ⟨_, rfl⟩
  rw [← hv] at F2 B2
  rw [← hv]
  clear hv
  have F := F2
  have B := B2
  clear F2 B2
  have y0 : v.cell? ⟨w.heap.size, 0, none⟩ = some (.int .i64 x) := F.out.cell 0
  have R0 := hide (show IsR v.heap.size ⟨#[]⟩ false (v.alloc (.cells #[.string ⟨#[]⟩, .bool false] 134)) from Blk.new v 134 #[.string ⟨#[]⟩, .bool false])
  have hv0 := B.out.size
  have KB := hide (B.out.alloc hv0 (.cells #[.string ⟨#[]⟩, .bool false] 134))
  have O0 := hide (only_of (b := v.heap.size) (Below.refl _ (v.alloc (.cells #[.string ⟨#[]⟩, .bool false] 134))))
  have hne : w.heap.size ≠ v.heap.size := by have := F.out.lt; omega
  have F0 := hide (F.out.alloc (.cells #[.string ⟨#[]⟩, .bool false] 134))
  go_upto_region 4 with fail
  generalize v.alloc (.cells #[.string ⟨#[]⟩, .bool false] 134) = w0 at *
  clear y0
  have f0 : w0.cell? ⟨w.heap.size, 0, none⟩ = some (.int .i64 x) := F0.out.cell 0
  go_wp2_with fail
  refine (wint_any v.heap.size 2 (by simp) x _ _ _ R0.out (by decide)).mono ?_
  rintro e w1 ⟨rfl, hr, ho⟩
  have R1 := hide hr
  have O1 := hide (only_trans O0.out ho)
  have F1 := hide (F0.out.only ho hne)
  clear hr ho
  clear f0
  have hz1 : Hid (((⟨#[]⟩ : ByteArray) ++ putS 2 x).size ≤ 1099511627776) := hide (by simp only [ByteArray.size_append]; have e0 : (⟨#[]⟩ : ByteArray).size = 0 := rfl; have := putS_size 2 x; omega)
  have f1 : w1.cell? ⟨w.heap.size, 1, none⟩ = some (.int .i64 y) := F1.out.cell 1
  go_wp2_with fail
  refine (wint_any v.heap.size 2 (by simp) y _ _ _ R1.out hz1.out).mono ?_
  rintro e w2 ⟨rfl, hr, ho⟩
  have R2 := hide hr
  have O2 := hide (only_trans O1.out ho)
  have F2 := hide (F1.out.only ho hne)
  clear hr ho
  clear f1
  rw [hT.out, hq.out] at R2
  go_wp2_with fail
  have F20 := hide (show Blk w.heap.size 71 #[.int .i64 x, .int .i64 y, .int .i64 f.bits, .int .i64 f.depth, .bool f.big, .bool f.tru, .int .i64 f.rm, .int .i64 f.gm, .int .i64 f.bm, .int .i64 f.rs, .int .i64 f.gs, .int .i64 f.bs, .string nm] w2.drew ∧ Blk v.heap.size 134 #[.string T, .bool q] w2.drew from ⟨F2.out, R2.out⟩)
  have O20 := hide (show Only v.heap.size w0 w2.drew from only_trans O2.out ⟨rfl, rfl, rfl, Nat.le_refl _, fun _ _ _ => rfl⟩)
  have hc : (9223372036854775807 < T.size + U.size) = False := eq_false (by omega)
  refine plan_region [(0, true), (1, true), (2, true), (3, true), (4, true), (5, true), (6, true), (7, false), (8, true), (9, true), (10, true), (11, false)] (fun w' => Blk w.heap.size 71 #[.int .i64 x, .int .i64 y, .int .i64 f.bits, .int .i64 f.depth, .bool f.big, .bool f.tru, .int .i64 f.rm, .int .i64 f.gm, .int .i64 f.bm, .int .i64 f.rs, .int .i64 f.gs, .int .i64 f.bs, .string nm] w' ∧ Blk v.heap.size 134 #[.string T, .bool q] w') [11] rfl (by kernel_rfl) (fun _ _ d _ _ h => by cases d <;> exact h) ?_
  generalize w2.drew = w20 at *
  refine plan_v (i := 0) (N := (some 27)) (v := ?v6x0) (a' := ?b6x0) rfl rfl F20.out (by rfl) ?hy6x0 ?ha6x0 ?_
  case hy6x0 =>
    intro w' hS'
    go_simp
    with_reducible rfl
  case ha6x0 =>
    simp only [Act.put, List.setIfInBounds_toArray, List.set_cons_zero, List.set_cons_succ]
    rfl
  refine plan_v (i := 1) (N := (some 28)) (v := ?v6x1) (a' := ?b6x1) rfl rfl F20.out (by rfl) ?hy6x1 ?ha6x1 ?_
  case hy6x1 =>
    intro w' hS'
    go_simp
    with_reducible rfl
  case ha6x1 =>
    simp only [Act.put, List.setIfInBounds_toArray, List.set_cons_zero, List.set_cons_succ]
    rfl
  refine plan_v (i := 2) (N := (some 29)) (v := ?v6x2) (a' := ?b6x2) rfl rfl F20.out (by rfl) ?hy6x2 ?ha6x2 ?_
  case hy6x2 =>
    intro w' hS'
    go_simp
    with_reducible rfl
  case ha6x2 =>
    simp only [Act.put, List.setIfInBounds_toArray, List.set_cons_zero, List.set_cons_succ]
    rfl
  refine plan_v (i := 3) (N := (some 30)) (v := ?v6x3) (a' := ?b6x3) rfl rfl F20.out (by rfl) ?hy6x3 ?ha6x3 ?_
  case hy6x3 =>
    intro w' hS'
    go_simp
    with_reducible rfl
  case ha6x3 =>
    simp only [Act.put, List.setIfInBounds_toArray, List.set_cons_zero, List.set_cons_succ]
    rfl
  refine plan_v (i := 4) (N := (some 31)) (v := ?v6x4) (a' := ?b6x4) rfl rfl F20.out (by rfl) ?hy6x4 ?ha6x4 ?_
  case hy6x4 =>
    intro w' hS'
    have c0 : w'.cell? ⟨v.heap.size, 0, none⟩ = some (.string T) := hS'.2.cell 0
    go_simp
    with_reducible rfl
  case ha6x4 =>
    simp only [Act.put, List.setIfInBounds_toArray, List.set_cons_zero, List.set_cons_succ]
    rfl
  refine plan_v (i := 5) (N := (some 32)) (v := ?v6x5) (a' := ?b6x5) rfl rfl F20.out (by rfl) ?hy6x5 ?ha6x5 ?_
  case hy6x5 =>
    intro w' hS'
    go_simp
    with_reducible rfl
  case ha6x5 =>
    simp only [Act.put, List.setIfInBounds_toArray, List.set_cons_zero, List.set_cons_succ]
    rfl
  refine plan_v (i := 6) (N := (some 33)) (v := ?v6x6) (a' := ?b6x6) rfl rfl F20.out (by rfl) ?hy6x6 ?ha6x6 ?_
  case hy6x6 =>
    intro w' hS'
    have f2 : w'.cell? ⟨w.heap.size, 2, none⟩ = some (.int .i64 f.bits) := hS'.1.cell 2
    have f3 : w'.cell? ⟨w.heap.size, 3, none⟩ = some (.int .i64 f.depth) := hS'.1.cell 3
    have f4 : w'.cell? ⟨w.heap.size, 4, none⟩ = some (.bool f.big) := hS'.1.cell 4
    have f5 : w'.cell? ⟨w.heap.size, 5, none⟩ = some (.bool f.tru) := hS'.1.cell 5
    have f6 : w'.cell? ⟨w.heap.size, 6, none⟩ = some (.int .i64 f.rm) := hS'.1.cell 6
    have f7 : w'.cell? ⟨w.heap.size, 7, none⟩ = some (.int .i64 f.gm) := hS'.1.cell 7
    have f8 : w'.cell? ⟨w.heap.size, 8, none⟩ = some (.int .i64 f.bm) := hS'.1.cell 8
    have f9 : w'.cell? ⟨w.heap.size, 9, none⟩ = some (.int .i64 f.rs) := hS'.1.cell 9
    have f10 : w'.cell? ⟨w.heap.size, 10, none⟩ = some (.int .i64 f.gs) := hS'.1.cell 10
    have f11 : w'.cell? ⟨w.heap.size, 11, none⟩ = some (.int .i64 f.bs) := hS'.1.cell 11
    go_simp
    with_reducible rfl
  case ha6x6 =>
    simp only [Act.put, List.setIfInBounds_toArray, List.set_cons_zero, List.set_cons_succ]
    rfl
  refine plan_e (i := 7) rfl (by rfl) (fun K hK => ?_)
  go_simp
  refine (K20.out _).mono ?_
  rintro e w21 ⟨rfl, hb⟩
  have F21 := hide (show Blk w.heap.size 71 #[.int .i64 x, .int .i64 y, .int .i64 f.bits, .int .i64 f.depth, .bool f.big, .bool f.tru, .int .i64 f.rm, .int .i64 f.gm, .int .i64 f.bm, .int .i64 f.rs, .int .i64 f.gs, .int .i64 f.bs, .string nm] w21 ∧ Blk v.heap.size 134 #[.string T, .bool q] w21 from ⟨F20.out.1.below hb, F20.out.2.below hb⟩)
  have O21 := hide (only_trans O20.out (only_of hb))
  clear hb
  refine hK _ _ (fun _ => F21.out) ?_
  clear hK K
  refine plan_v (i := 8) (N := (some 35)) (v := ?v6x8) (a' := ?b6x8) rfl rfl F21.out (by rfl) ?hy6x8 ?ha6x8 ?_
  case hy6x8 =>
    intro w' hS'
    go_simp
    with_reducible rfl
  case ha6x8 =>
    simp only [Act.put, List.setIfInBounds_toArray, List.set_cons_zero, List.set_cons_succ]
    rfl
  refine plan_v (i := 9) (N := (some 36)) (v := ?v6x9) (a' := ?b6x9) rfl rfl F21.out (by rfl) ?hy6x9 ?ha6x9 ?_
  case hy6x9 =>
    intro w' hS'
    go_simp
    with_reducible rfl
  case ha6x9 =>
    simp only [Act.put, List.setIfInBounds_toArray, List.set_cons_zero, List.set_cons_succ]
    rfl
  refine plan_v (i := 10) (N := (some 37)) (v := ?v6x10) (a' := ?b6x10) rfl rfl F21.out (by rfl) ?hy6x10 ?ha6x10 ?_
  case hy6x10 =>
    intro w' hS'
    go_simp
    with_reducible rfl
  case ha6x10 =>
    simp only [Act.put, List.setIfInBounds_toArray, List.set_cons_zero, List.set_cons_succ]
    rfl
  refine plan_e (i := 11) rfl (by rfl) (fun K hK => ?_)
  have c0 : w21.cell? ⟨v.heap.size, 0, none⟩ = some (.string T) := F21.out.2.cell 0
  have p0 : w21.frozen? ⟨v.heap.size, 0, none⟩ = false := F21.out.2.fr 0
  go_simp
  have R22 := hide (Blk.set F21.out.2 0 (.string (T ++ U)))
  have O22 := hide (only_trans O21.out (only_set v.heap.size 0 w21 (.string (T ++ U))))
  have F22 := hide (F21.out.1.other (p := ⟨v.heap.size, 0, none⟩) hne (.string (T ++ U)))
  refine hK _ _ (fun h => absurd (by simp) h) ?_
  clear hK K
  refine plan_done ?_
  clear hc
  have hzu : Hid ((T ++ U).size ≤ 1000) := hide (by rw [ByteArray.size_append]; omega)
  obtain ⟨w22, hw22⟩ : ∃ w22 : World, w22 = w21.setCell ⟨v.heap.size, 0, none⟩ (.string (T ++ U)) := ⟨_, rfl⟩
  rw [← hw22] at R22 O22 F22
  rw [← hw22]
  clear hw22
  have f12 : w22.cell? ⟨w.heap.size, 12, none⟩ = some (.string nm) := F22.out.cell 12
  go_wp2_with fail
  refine (long104_any v.heap.size nm _ _ _ R22 (Nat.le_trans hzu.out (by decide)) hnm).mono ?_
  rintro e w23 ⟨rfl, hr, ho⟩
  have R23 := hide hr
  have O23 := hide (only_trans O22.out ho)
  have F23 := hide (F22.out.only ho hne)
  clear hr ho
  clear f12
  go_wp2_with fail
  refine (done102_any v.heap.size _ _ _ R23.out).mono ?_
  rintro e w24 ⟨rfl, rfl⟩
  go_wp2_with fail
  go_ret2
  exact ⟨rfl, KB.out.trans (only_below O23.out KB.out.size hv0)⟩

set_option maxHeartbeats 3200000 in
set_option maxRecDepth 100000 in
theorem rbytes52_y (x y : Int) (f : Fmt) (nm T U : ByteArray) (q : Bool) (w : World) (hnm : nm.size ≤ 109951162777) (hT : Hid ((⟨#[]⟩ : ByteArray) ++ putS 2 x ++ putS 2 y = T)) (hq : Hid (((false && (putE 2 x == 0)) && (putE 2 y == 0)) = q)) (hz : T.size ≤ 100) (hU : U.size ≤ 100) (hx : (x != 0) = true) (hy : (y != 0) = false)
    (K18 : Hid (∀ w, Calls Try.prog 18 #[fmtV f] w fun e w' => e = .returned (.bool true) ∧ Below w.heap.size w w'))
    (K20 : Hid (∀ w, Calls Try.prog 20 #[fmtV f] w fun e w' => e = .returned (.string U) ∧ Below w.heap.size w w'))
    : Calls Try.prog 52 #[.agg (staC x y f nm)] w fun e w' => e = .returned (.tuple #[.string (rS (q && (putE 4 nm.size == 0) && decide ((nm.size : Int) ≤ 4096)) (T ++ U ++ putS 4 nm.size ++ nm)), .int .i64 (rE (q && (putE 4 nm.size == 0) && decide ((nm.size : Int) ≤ 4096)))]) ∧ Below w.heap.size w w' := by
  have F := hide (Blk.new w 71 #[.int .i64 x, .int .i64 y, .int .i64 f.bits, .int .i64 f.depth, .bool f.big, .bool f.tru, .int .i64 f.rm, .int .i64 f.gm, .int .i64 f.bm, .int .i64 f.rs, .int .i64 f.gs, .int .i64 f.bs, .string nm])
  have B := hide ((Below.refl w.heap.size w).alloc (Nat.le_refl _) (.cells #[.int .i64 x, .int .i64 y, .int .i64 f.bits, .int .i64 f.depth, .bool f.big, .bool f.tru, .int .i64 f.rm, .int .i64 f.gm, .int .i64 f.bm, .int .i64 f.rs, .int .i64 f.gs, .int .i64 f.bs, .string nm] 71))
  go_enter Try.func52, Try.ntmps52
  go_upto_region 1 with fail
  generalize w.alloc (.cells #[.int .i64 x, .int .i64 y, .int .i64 f.bits, .int .i64 f.depth, .bool f.big, .bool f.tru, .int .i64 f.rm, .int .i64 f.gm, .int .i64 f.bm, .int .i64 f.rs, .int .i64 f.gs, .int .i64 f.bs, .string nm] 71) = v at *
  have g2 : v.cell? ⟨w.heap.size, 2, none⟩ = some (.int .i64 f.bits) := F.out.cell 2
  have g3 : v.cell? ⟨w.heap.size, 3, none⟩ = some (.int .i64 f.depth) := F.out.cell 3
  have g4 : v.cell? ⟨w.heap.size, 4, none⟩ = some (.bool f.big) := F.out.cell 4
  have g5 : v.cell? ⟨w.heap.size, 5, none⟩ = some (.bool f.tru) := F.out.cell 5
  have g6 : v.cell? ⟨w.heap.size, 6, none⟩ = some (.int .i64 f.rm) := F.out.cell 6
  have g7 : v.cell? ⟨w.heap.size, 7, none⟩ = some (.int .i64 f.gm) := F.out.cell 7
  have g8 : v.cell? ⟨w.heap.size, 8, none⟩ = some (.int .i64 f.bm) := F.out.cell 8
  have g9 : v.cell? ⟨w.heap.size, 9, none⟩ = some (.int .i64 f.rs) := F.out.cell 9
  have g10 : v.cell? ⟨w.heap.size, 10, none⟩ = some (.int .i64 f.gs) := F.out.cell 10
  have g11 : v.cell? ⟨w.heap.size, 11, none⟩ = some (.int .i64 f.bs) := F.out.cell 11
  go_wp2_with fail
  refine (K18.out _).mono ?_
  rintro e v2 ⟨rfl, hb⟩
  have F2 := hide (F.out.below hb)
  have B2 := hide (B.out.trans (hb.mono B.out.size))
  clear hb g2 g3 g4 g5 g6 g7 g8 g9 g10 g11 F B
  obtain ⟨v, hv⟩ : ∃ v : World, v = v2 := ⟨_, rfl⟩
  rw [← hv] at F2 B2
  rw [← hv]
  clear hv
  have F := F2
  have B := B2
  clear F2 B2
  have y0 : v.cell? ⟨w.heap.size, 0, none⟩ = some (.int .i64 x) := F.out.cell 0
  have y1 : v.cell? ⟨w.heap.size, 1, none⟩ = some (.int .i64 y) := F.out.cell 1
  have R0 := hide (show IsR v.heap.size ⟨#[]⟩ false (v.alloc (.cells #[.string ⟨#[]⟩, .bool false] 134)) from Blk.new v 134 #[.string ⟨#[]⟩, .bool false])
  have hv0 := B.out.size
  have KB := hide (B.out.alloc hv0 (.cells #[.string ⟨#[]⟩, .bool false] 134))
  have O0 := hide (only_of (b := v.heap.size) (Below.refl _ (v.alloc (.cells #[.string ⟨#[]⟩, .bool false] 134))))
  have hne : w.heap.size ≠ v.heap.size := by have := F.out.lt; omega
  have F0 := hide (F.out.alloc (.cells #[.string ⟨#[]⟩, .bool false] 134))
  go_upto_region 4 with fail
  generalize v.alloc (.cells #[.string ⟨#[]⟩, .bool false] 134) = w0 at *
  clear y0 y1
  have f0 : w0.cell? ⟨w.heap.size, 0, none⟩ = some (.int .i64 x) := F0.out.cell 0
  go_wp2_with fail
  refine (wint_any v.heap.size 2 (by simp) x _ _ _ R0.out (by decide)).mono ?_
  rintro e w1 ⟨rfl, hr, ho⟩
  have R1 := hide hr
  have O1 := hide (only_trans O0.out ho)
  have F1 := hide (F0.out.only ho hne)
  clear hr ho
  clear f0
  have hz1 : Hid (((⟨#[]⟩ : ByteArray) ++ putS 2 x).size ≤ 1099511627776) := hide (by simp only [ByteArray.size_append]; have e0 : (⟨#[]⟩ : ByteArray).size = 0 := rfl; have := putS_size 2 x; omega)
  have f1 : w1.cell? ⟨w.heap.size, 1, none⟩ = some (.int .i64 y) := F1.out.cell 1
  go_wp2_with fail
  refine (wint_any v.heap.size 2 (by simp) y _ _ _ R1.out hz1.out).mono ?_
  rintro e w2 ⟨rfl, hr, ho⟩
  have R2 := hide hr
  have O2 := hide (only_trans O1.out ho)
  have F2 := hide (F1.out.only ho hne)
  clear hr ho
  clear f1
  rw [hT.out, hq.out] at R2
  go_wp2_with fail
  have F20 := hide (show Blk w.heap.size 71 #[.int .i64 x, .int .i64 y, .int .i64 f.bits, .int .i64 f.depth, .bool f.big, .bool f.tru, .int .i64 f.rm, .int .i64 f.gm, .int .i64 f.bm, .int .i64 f.rs, .int .i64 f.gs, .int .i64 f.bs, .string nm] w2.drew ∧ Blk v.heap.size 134 #[.string T, .bool q] w2.drew from ⟨F2.out, R2.out⟩)
  have O20 := hide (show Only v.heap.size w0 w2.drew from only_trans O2.out ⟨rfl, rfl, rfl, Nat.le_refl _, fun _ _ _ => rfl⟩)
  have hc : (9223372036854775807 < T.size + U.size) = False := eq_false (by omega)
  refine plan_region [(0, true), (1, true), (2, true), (3, true), (4, true), (5, true), (6, true), (7, false), (8, true), (9, true), (10, true), (11, false)] (fun w' => Blk w.heap.size 71 #[.int .i64 x, .int .i64 y, .int .i64 f.bits, .int .i64 f.depth, .bool f.big, .bool f.tru, .int .i64 f.rm, .int .i64 f.gm, .int .i64 f.bm, .int .i64 f.rs, .int .i64 f.gs, .int .i64 f.bs, .string nm] w' ∧ Blk v.heap.size 134 #[.string T, .bool q] w') [11] rfl (by kernel_rfl) (fun _ _ d _ _ h => by cases d <;> exact h) ?_
  generalize w2.drew = w20 at *
  refine plan_v (i := 0) (N := (some 27)) (v := ?v6x0) (a' := ?b6x0) rfl rfl F20.out (by rfl) ?hy6x0 ?ha6x0 ?_
  case hy6x0 =>
    intro w' hS'
    go_simp
    with_reducible rfl
  case ha6x0 =>
    simp only [Act.put, List.setIfInBounds_toArray, List.set_cons_zero, List.set_cons_succ]
    rfl
  refine plan_v (i := 1) (N := (some 28)) (v := ?v6x1) (a' := ?b6x1) rfl rfl F20.out (by rfl) ?hy6x1 ?ha6x1 ?_
  case hy6x1 =>
    intro w' hS'
    go_simp
    with_reducible rfl
  case ha6x1 =>
    simp only [Act.put, List.setIfInBounds_toArray, List.set_cons_zero, List.set_cons_succ]
    rfl
  refine plan_v (i := 2) (N := (some 29)) (v := ?v6x2) (a' := ?b6x2) rfl rfl F20.out (by rfl) ?hy6x2 ?ha6x2 ?_
  case hy6x2 =>
    intro w' hS'
    go_simp
    with_reducible rfl
  case ha6x2 =>
    simp only [Act.put, List.setIfInBounds_toArray, List.set_cons_zero, List.set_cons_succ]
    rfl
  refine plan_v (i := 3) (N := (some 30)) (v := ?v6x3) (a' := ?b6x3) rfl rfl F20.out (by rfl) ?hy6x3 ?ha6x3 ?_
  case hy6x3 =>
    intro w' hS'
    go_simp
    with_reducible rfl
  case ha6x3 =>
    simp only [Act.put, List.setIfInBounds_toArray, List.set_cons_zero, List.set_cons_succ]
    rfl
  refine plan_v (i := 4) (N := (some 31)) (v := ?v6x4) (a' := ?b6x4) rfl rfl F20.out (by rfl) ?hy6x4 ?ha6x4 ?_
  case hy6x4 =>
    intro w' hS'
    have c0 : w'.cell? ⟨v.heap.size, 0, none⟩ = some (.string T) := hS'.2.cell 0
    go_simp
    with_reducible rfl
  case ha6x4 =>
    simp only [Act.put, List.setIfInBounds_toArray, List.set_cons_zero, List.set_cons_succ]
    rfl
  refine plan_v (i := 5) (N := (some 32)) (v := ?v6x5) (a' := ?b6x5) rfl rfl F20.out (by rfl) ?hy6x5 ?ha6x5 ?_
  case hy6x5 =>
    intro w' hS'
    go_simp
    with_reducible rfl
  case ha6x5 =>
    simp only [Act.put, List.setIfInBounds_toArray, List.set_cons_zero, List.set_cons_succ]
    rfl
  refine plan_v (i := 6) (N := (some 33)) (v := ?v6x6) (a' := ?b6x6) rfl rfl F20.out (by rfl) ?hy6x6 ?ha6x6 ?_
  case hy6x6 =>
    intro w' hS'
    have f2 : w'.cell? ⟨w.heap.size, 2, none⟩ = some (.int .i64 f.bits) := hS'.1.cell 2
    have f3 : w'.cell? ⟨w.heap.size, 3, none⟩ = some (.int .i64 f.depth) := hS'.1.cell 3
    have f4 : w'.cell? ⟨w.heap.size, 4, none⟩ = some (.bool f.big) := hS'.1.cell 4
    have f5 : w'.cell? ⟨w.heap.size, 5, none⟩ = some (.bool f.tru) := hS'.1.cell 5
    have f6 : w'.cell? ⟨w.heap.size, 6, none⟩ = some (.int .i64 f.rm) := hS'.1.cell 6
    have f7 : w'.cell? ⟨w.heap.size, 7, none⟩ = some (.int .i64 f.gm) := hS'.1.cell 7
    have f8 : w'.cell? ⟨w.heap.size, 8, none⟩ = some (.int .i64 f.bm) := hS'.1.cell 8
    have f9 : w'.cell? ⟨w.heap.size, 9, none⟩ = some (.int .i64 f.rs) := hS'.1.cell 9
    have f10 : w'.cell? ⟨w.heap.size, 10, none⟩ = some (.int .i64 f.gs) := hS'.1.cell 10
    have f11 : w'.cell? ⟨w.heap.size, 11, none⟩ = some (.int .i64 f.bs) := hS'.1.cell 11
    go_simp
    with_reducible rfl
  case ha6x6 =>
    simp only [Act.put, List.setIfInBounds_toArray, List.set_cons_zero, List.set_cons_succ]
    rfl
  refine plan_e (i := 7) rfl (by rfl) (fun K hK => ?_)
  go_simp
  refine (K20.out _).mono ?_
  rintro e w21 ⟨rfl, hb⟩
  have F21 := hide (show Blk w.heap.size 71 #[.int .i64 x, .int .i64 y, .int .i64 f.bits, .int .i64 f.depth, .bool f.big, .bool f.tru, .int .i64 f.rm, .int .i64 f.gm, .int .i64 f.bm, .int .i64 f.rs, .int .i64 f.gs, .int .i64 f.bs, .string nm] w21 ∧ Blk v.heap.size 134 #[.string T, .bool q] w21 from ⟨F20.out.1.below hb, F20.out.2.below hb⟩)
  have O21 := hide (only_trans O20.out (only_of hb))
  clear hb
  refine hK _ _ (fun _ => F21.out) ?_
  clear hK K
  refine plan_v (i := 8) (N := (some 35)) (v := ?v6x8) (a' := ?b6x8) rfl rfl F21.out (by rfl) ?hy6x8 ?ha6x8 ?_
  case hy6x8 =>
    intro w' hS'
    go_simp
    with_reducible rfl
  case ha6x8 =>
    simp only [Act.put, List.setIfInBounds_toArray, List.set_cons_zero, List.set_cons_succ]
    rfl
  refine plan_v (i := 9) (N := (some 36)) (v := ?v6x9) (a' := ?b6x9) rfl rfl F21.out (by rfl) ?hy6x9 ?ha6x9 ?_
  case hy6x9 =>
    intro w' hS'
    go_simp
    with_reducible rfl
  case ha6x9 =>
    simp only [Act.put, List.setIfInBounds_toArray, List.set_cons_zero, List.set_cons_succ]
    rfl
  refine plan_v (i := 10) (N := (some 37)) (v := ?v6x10) (a' := ?b6x10) rfl rfl F21.out (by rfl) ?hy6x10 ?ha6x10 ?_
  case hy6x10 =>
    intro w' hS'
    go_simp
    with_reducible rfl
  case ha6x10 =>
    simp only [Act.put, List.setIfInBounds_toArray, List.set_cons_zero, List.set_cons_succ]
    rfl
  refine plan_e (i := 11) rfl (by rfl) (fun K hK => ?_)
  have c0 : w21.cell? ⟨v.heap.size, 0, none⟩ = some (.string T) := F21.out.2.cell 0
  have p0 : w21.frozen? ⟨v.heap.size, 0, none⟩ = false := F21.out.2.fr 0
  go_simp
  have R22 := hide (Blk.set F21.out.2 0 (.string (T ++ U)))
  have O22 := hide (only_trans O21.out (only_set v.heap.size 0 w21 (.string (T ++ U))))
  have F22 := hide (F21.out.1.other (p := ⟨v.heap.size, 0, none⟩) hne (.string (T ++ U)))
  refine hK _ _ (fun h => absurd (by simp) h) ?_
  clear hK K
  refine plan_done ?_
  clear hc
  have hzu : Hid ((T ++ U).size ≤ 1000) := hide (by rw [ByteArray.size_append]; omega)
  obtain ⟨w22, hw22⟩ : ∃ w22 : World, w22 = w21.setCell ⟨v.heap.size, 0, none⟩ (.string (T ++ U)) := ⟨_, rfl⟩
  rw [← hw22] at R22 O22 F22
  rw [← hw22]
  clear hw22
  have f12 : w22.cell? ⟨w.heap.size, 12, none⟩ = some (.string nm) := F22.out.cell 12
  go_wp2_with fail
  refine (long104_any v.heap.size nm _ _ _ R22 (Nat.le_trans hzu.out (by decide)) hnm).mono ?_
  rintro e w23 ⟨rfl, hr, ho⟩
  have R23 := hide hr
  have O23 := hide (only_trans O22.out ho)
  have F23 := hide (F22.out.only ho hne)
  clear hr ho
  clear f12
  go_wp2_with fail
  refine (done102_any v.heap.size _ _ _ R23.out).mono ?_
  rintro e w24 ⟨rfl, rfl⟩
  go_wp2_with fail
  go_ret2
  exact ⟨rfl, KB.out.trans (only_below O23.out KB.out.size hv0)⟩

set_option maxHeartbeats 3200000 in
set_option maxRecDepth 100000 in
theorem rbytes52_ok (x y : Int) (f : Fmt) (nm T U : ByteArray) (q : Bool) (w : World) (hnm : nm.size ≤ 109951162777) (hT : Hid ((⟨#[]⟩ : ByteArray) ++ putS 2 x ++ putS 2 y = T)) (hq : Hid (((true && (putE 2 x == 0)) && (putE 2 y == 0)) = q)) (hz : T.size ≤ 100) (hU : U.size ≤ 100) (hx : (x != 0) = true) (hy : (y != 0) = true)
    (K18 : Hid (∀ w, Calls Try.prog 18 #[fmtV f] w fun e w' => e = .returned (.bool true) ∧ Below w.heap.size w w'))
    (K20 : Hid (∀ w, Calls Try.prog 20 #[fmtV f] w fun e w' => e = .returned (.string U) ∧ Below w.heap.size w w'))
    : Calls Try.prog 52 #[.agg (staC x y f nm)] w fun e w' => e = .returned (.tuple #[.string (rS (q && (putE 4 nm.size == 0) && decide ((nm.size : Int) ≤ 4096)) (T ++ U ++ putS 4 nm.size ++ nm)), .int .i64 (rE (q && (putE 4 nm.size == 0) && decide ((nm.size : Int) ≤ 4096)))]) ∧ Below w.heap.size w w' := by
  have F := hide (Blk.new w 71 #[.int .i64 x, .int .i64 y, .int .i64 f.bits, .int .i64 f.depth, .bool f.big, .bool f.tru, .int .i64 f.rm, .int .i64 f.gm, .int .i64 f.bm, .int .i64 f.rs, .int .i64 f.gs, .int .i64 f.bs, .string nm])
  have B := hide ((Below.refl w.heap.size w).alloc (Nat.le_refl _) (.cells #[.int .i64 x, .int .i64 y, .int .i64 f.bits, .int .i64 f.depth, .bool f.big, .bool f.tru, .int .i64 f.rm, .int .i64 f.gm, .int .i64 f.bm, .int .i64 f.rs, .int .i64 f.gs, .int .i64 f.bs, .string nm] 71))
  go_enter Try.func52, Try.ntmps52
  go_upto_region 1 with fail
  generalize w.alloc (.cells #[.int .i64 x, .int .i64 y, .int .i64 f.bits, .int .i64 f.depth, .bool f.big, .bool f.tru, .int .i64 f.rm, .int .i64 f.gm, .int .i64 f.bm, .int .i64 f.rs, .int .i64 f.gs, .int .i64 f.bs, .string nm] 71) = v at *
  have g2 : v.cell? ⟨w.heap.size, 2, none⟩ = some (.int .i64 f.bits) := F.out.cell 2
  have g3 : v.cell? ⟨w.heap.size, 3, none⟩ = some (.int .i64 f.depth) := F.out.cell 3
  have g4 : v.cell? ⟨w.heap.size, 4, none⟩ = some (.bool f.big) := F.out.cell 4
  have g5 : v.cell? ⟨w.heap.size, 5, none⟩ = some (.bool f.tru) := F.out.cell 5
  have g6 : v.cell? ⟨w.heap.size, 6, none⟩ = some (.int .i64 f.rm) := F.out.cell 6
  have g7 : v.cell? ⟨w.heap.size, 7, none⟩ = some (.int .i64 f.gm) := F.out.cell 7
  have g8 : v.cell? ⟨w.heap.size, 8, none⟩ = some (.int .i64 f.bm) := F.out.cell 8
  have g9 : v.cell? ⟨w.heap.size, 9, none⟩ = some (.int .i64 f.rs) := F.out.cell 9
  have g10 : v.cell? ⟨w.heap.size, 10, none⟩ = some (.int .i64 f.gs) := F.out.cell 10
  have g11 : v.cell? ⟨w.heap.size, 11, none⟩ = some (.int .i64 f.bs) := F.out.cell 11
  go_wp2_with fail
  refine (K18.out _).mono ?_
  rintro e v2 ⟨rfl, hb⟩
  have F2 := hide (F.out.below hb)
  have B2 := hide (B.out.trans (hb.mono B.out.size))
  clear hb g2 g3 g4 g5 g6 g7 g8 g9 g10 g11 F B
  obtain ⟨v, hv⟩ : ∃ v : World, v = v2 := ⟨_, rfl⟩
  rw [← hv] at F2 B2
  rw [← hv]
  clear hv
  have F := F2
  have B := B2
  clear F2 B2
  have y0 : v.cell? ⟨w.heap.size, 0, none⟩ = some (.int .i64 x) := F.out.cell 0
  have y1 : v.cell? ⟨w.heap.size, 1, none⟩ = some (.int .i64 y) := F.out.cell 1
  have R0 := hide (show IsR v.heap.size ⟨#[]⟩ true (v.alloc (.cells #[.string ⟨#[]⟩, .bool true] 134)) from Blk.new v 134 #[.string ⟨#[]⟩, .bool true])
  have hv0 := B.out.size
  have KB := hide (B.out.alloc hv0 (.cells #[.string ⟨#[]⟩, .bool true] 134))
  have O0 := hide (only_of (b := v.heap.size) (Below.refl _ (v.alloc (.cells #[.string ⟨#[]⟩, .bool true] 134))))
  have hne : w.heap.size ≠ v.heap.size := by have := F.out.lt; omega
  have F0 := hide (F.out.alloc (.cells #[.string ⟨#[]⟩, .bool true] 134))
  go_upto_region 4 with fail
  generalize v.alloc (.cells #[.string ⟨#[]⟩, .bool true] 134) = w0 at *
  clear y0 y1
  have f0 : w0.cell? ⟨w.heap.size, 0, none⟩ = some (.int .i64 x) := F0.out.cell 0
  go_wp2_with fail
  refine (wint_any v.heap.size 2 (by simp) x _ _ _ R0.out (by decide)).mono ?_
  rintro e w1 ⟨rfl, hr, ho⟩
  have R1 := hide hr
  have O1 := hide (only_trans O0.out ho)
  have F1 := hide (F0.out.only ho hne)
  clear hr ho
  clear f0
  have hz1 : Hid (((⟨#[]⟩ : ByteArray) ++ putS 2 x).size ≤ 1099511627776) := hide (by simp only [ByteArray.size_append]; have e0 : (⟨#[]⟩ : ByteArray).size = 0 := rfl; have := putS_size 2 x; omega)
  have f1 : w1.cell? ⟨w.heap.size, 1, none⟩ = some (.int .i64 y) := F1.out.cell 1
  go_wp2_with fail
  refine (wint_any v.heap.size 2 (by simp) y _ _ _ R1.out hz1.out).mono ?_
  rintro e w2 ⟨rfl, hr, ho⟩
  have R2 := hide hr
  have O2 := hide (only_trans O1.out ho)
  have F2 := hide (F1.out.only ho hne)
  clear hr ho
  clear f1
  rw [hT.out, hq.out] at R2
  go_wp2_with fail
  have F20 := hide (show Blk w.heap.size 71 #[.int .i64 x, .int .i64 y, .int .i64 f.bits, .int .i64 f.depth, .bool f.big, .bool f.tru, .int .i64 f.rm, .int .i64 f.gm, .int .i64 f.bm, .int .i64 f.rs, .int .i64 f.gs, .int .i64 f.bs, .string nm] w2.drew ∧ Blk v.heap.size 134 #[.string T, .bool q] w2.drew from ⟨F2.out, R2.out⟩)
  have O20 := hide (show Only v.heap.size w0 w2.drew from only_trans O2.out ⟨rfl, rfl, rfl, Nat.le_refl _, fun _ _ _ => rfl⟩)
  have hc : (9223372036854775807 < T.size + U.size) = False := eq_false (by omega)
  refine plan_region [(0, true), (1, true), (2, true), (3, true), (4, true), (5, true), (6, true), (7, false), (8, true), (9, true), (10, true), (11, false)] (fun w' => Blk w.heap.size 71 #[.int .i64 x, .int .i64 y, .int .i64 f.bits, .int .i64 f.depth, .bool f.big, .bool f.tru, .int .i64 f.rm, .int .i64 f.gm, .int .i64 f.bm, .int .i64 f.rs, .int .i64 f.gs, .int .i64 f.bs, .string nm] w' ∧ Blk v.heap.size 134 #[.string T, .bool q] w') [11] rfl (by kernel_rfl) (fun _ _ d _ _ h => by cases d <;> exact h) ?_
  generalize w2.drew = w20 at *
  refine plan_v (i := 0) (N := (some 27)) (v := ?v6x0) (a' := ?b6x0) rfl rfl F20.out (by rfl) ?hy6x0 ?ha6x0 ?_
  case hy6x0 =>
    intro w' hS'
    go_simp
    with_reducible rfl
  case ha6x0 =>
    simp only [Act.put, List.setIfInBounds_toArray, List.set_cons_zero, List.set_cons_succ]
    rfl
  refine plan_v (i := 1) (N := (some 28)) (v := ?v6x1) (a' := ?b6x1) rfl rfl F20.out (by rfl) ?hy6x1 ?ha6x1 ?_
  case hy6x1 =>
    intro w' hS'
    go_simp
    with_reducible rfl
  case ha6x1 =>
    simp only [Act.put, List.setIfInBounds_toArray, List.set_cons_zero, List.set_cons_succ]
    rfl
  refine plan_v (i := 2) (N := (some 29)) (v := ?v6x2) (a' := ?b6x2) rfl rfl F20.out (by rfl) ?hy6x2 ?ha6x2 ?_
  case hy6x2 =>
    intro w' hS'
    go_simp
    with_reducible rfl
  case ha6x2 =>
    simp only [Act.put, List.setIfInBounds_toArray, List.set_cons_zero, List.set_cons_succ]
    rfl
  refine plan_v (i := 3) (N := (some 30)) (v := ?v6x3) (a' := ?b6x3) rfl rfl F20.out (by rfl) ?hy6x3 ?ha6x3 ?_
  case hy6x3 =>
    intro w' hS'
    go_simp
    with_reducible rfl
  case ha6x3 =>
    simp only [Act.put, List.setIfInBounds_toArray, List.set_cons_zero, List.set_cons_succ]
    rfl
  refine plan_v (i := 4) (N := (some 31)) (v := ?v6x4) (a' := ?b6x4) rfl rfl F20.out (by rfl) ?hy6x4 ?ha6x4 ?_
  case hy6x4 =>
    intro w' hS'
    have c0 : w'.cell? ⟨v.heap.size, 0, none⟩ = some (.string T) := hS'.2.cell 0
    go_simp
    with_reducible rfl
  case ha6x4 =>
    simp only [Act.put, List.setIfInBounds_toArray, List.set_cons_zero, List.set_cons_succ]
    rfl
  refine plan_v (i := 5) (N := (some 32)) (v := ?v6x5) (a' := ?b6x5) rfl rfl F20.out (by rfl) ?hy6x5 ?ha6x5 ?_
  case hy6x5 =>
    intro w' hS'
    go_simp
    with_reducible rfl
  case ha6x5 =>
    simp only [Act.put, List.setIfInBounds_toArray, List.set_cons_zero, List.set_cons_succ]
    rfl
  refine plan_v (i := 6) (N := (some 33)) (v := ?v6x6) (a' := ?b6x6) rfl rfl F20.out (by rfl) ?hy6x6 ?ha6x6 ?_
  case hy6x6 =>
    intro w' hS'
    have f2 : w'.cell? ⟨w.heap.size, 2, none⟩ = some (.int .i64 f.bits) := hS'.1.cell 2
    have f3 : w'.cell? ⟨w.heap.size, 3, none⟩ = some (.int .i64 f.depth) := hS'.1.cell 3
    have f4 : w'.cell? ⟨w.heap.size, 4, none⟩ = some (.bool f.big) := hS'.1.cell 4
    have f5 : w'.cell? ⟨w.heap.size, 5, none⟩ = some (.bool f.tru) := hS'.1.cell 5
    have f6 : w'.cell? ⟨w.heap.size, 6, none⟩ = some (.int .i64 f.rm) := hS'.1.cell 6
    have f7 : w'.cell? ⟨w.heap.size, 7, none⟩ = some (.int .i64 f.gm) := hS'.1.cell 7
    have f8 : w'.cell? ⟨w.heap.size, 8, none⟩ = some (.int .i64 f.bm) := hS'.1.cell 8
    have f9 : w'.cell? ⟨w.heap.size, 9, none⟩ = some (.int .i64 f.rs) := hS'.1.cell 9
    have f10 : w'.cell? ⟨w.heap.size, 10, none⟩ = some (.int .i64 f.gs) := hS'.1.cell 10
    have f11 : w'.cell? ⟨w.heap.size, 11, none⟩ = some (.int .i64 f.bs) := hS'.1.cell 11
    go_simp
    with_reducible rfl
  case ha6x6 =>
    simp only [Act.put, List.setIfInBounds_toArray, List.set_cons_zero, List.set_cons_succ]
    rfl
  refine plan_e (i := 7) rfl (by rfl) (fun K hK => ?_)
  go_simp
  refine (K20.out _).mono ?_
  rintro e w21 ⟨rfl, hb⟩
  have F21 := hide (show Blk w.heap.size 71 #[.int .i64 x, .int .i64 y, .int .i64 f.bits, .int .i64 f.depth, .bool f.big, .bool f.tru, .int .i64 f.rm, .int .i64 f.gm, .int .i64 f.bm, .int .i64 f.rs, .int .i64 f.gs, .int .i64 f.bs, .string nm] w21 ∧ Blk v.heap.size 134 #[.string T, .bool q] w21 from ⟨F20.out.1.below hb, F20.out.2.below hb⟩)
  have O21 := hide (only_trans O20.out (only_of hb))
  clear hb
  refine hK _ _ (fun _ => F21.out) ?_
  clear hK K
  refine plan_v (i := 8) (N := (some 35)) (v := ?v6x8) (a' := ?b6x8) rfl rfl F21.out (by rfl) ?hy6x8 ?ha6x8 ?_
  case hy6x8 =>
    intro w' hS'
    go_simp
    with_reducible rfl
  case ha6x8 =>
    simp only [Act.put, List.setIfInBounds_toArray, List.set_cons_zero, List.set_cons_succ]
    rfl
  refine plan_v (i := 9) (N := (some 36)) (v := ?v6x9) (a' := ?b6x9) rfl rfl F21.out (by rfl) ?hy6x9 ?ha6x9 ?_
  case hy6x9 =>
    intro w' hS'
    go_simp
    with_reducible rfl
  case ha6x9 =>
    simp only [Act.put, List.setIfInBounds_toArray, List.set_cons_zero, List.set_cons_succ]
    rfl
  refine plan_v (i := 10) (N := (some 37)) (v := ?v6x10) (a' := ?b6x10) rfl rfl F21.out (by rfl) ?hy6x10 ?ha6x10 ?_
  case hy6x10 =>
    intro w' hS'
    go_simp
    with_reducible rfl
  case ha6x10 =>
    simp only [Act.put, List.setIfInBounds_toArray, List.set_cons_zero, List.set_cons_succ]
    rfl
  refine plan_e (i := 11) rfl (by rfl) (fun K hK => ?_)
  have c0 : w21.cell? ⟨v.heap.size, 0, none⟩ = some (.string T) := F21.out.2.cell 0
  have p0 : w21.frozen? ⟨v.heap.size, 0, none⟩ = false := F21.out.2.fr 0
  go_simp
  have R22 := hide (Blk.set F21.out.2 0 (.string (T ++ U)))
  have O22 := hide (only_trans O21.out (only_set v.heap.size 0 w21 (.string (T ++ U))))
  have F22 := hide (F21.out.1.other (p := ⟨v.heap.size, 0, none⟩) hne (.string (T ++ U)))
  refine hK _ _ (fun h => absurd (by simp) h) ?_
  clear hK K
  refine plan_done ?_
  clear hc
  have hzu : Hid ((T ++ U).size ≤ 1000) := hide (by rw [ByteArray.size_append]; omega)
  obtain ⟨w22, hw22⟩ : ∃ w22 : World, w22 = w21.setCell ⟨v.heap.size, 0, none⟩ (.string (T ++ U)) := ⟨_, rfl⟩
  rw [← hw22] at R22 O22 F22
  rw [← hw22]
  clear hw22
  have f12 : w22.cell? ⟨w.heap.size, 12, none⟩ = some (.string nm) := F22.out.cell 12
  go_wp2_with fail
  refine (long104_any v.heap.size nm _ _ _ R22 (Nat.le_trans hzu.out (by decide)) hnm).mono ?_
  rintro e w23 ⟨rfl, hr, ho⟩
  have R23 := hide hr
  have O23 := hide (only_trans O22.out ho)
  have F23 := hide (F22.out.only ho hne)
  clear hr ho
  clear f12
  go_wp2_with fail
  refine (done102_any v.heap.size _ _ _ R23.out).mono ?_
  rintro e w24 ⟨rfl, rfl⟩
  go_wp2_with fail
  go_ret2
  exact ⟨rfl, KB.out.trans (only_below O23.out KB.out.size hv0)⟩

end Go.Proofs.Ytodlpofpeoiedaa
