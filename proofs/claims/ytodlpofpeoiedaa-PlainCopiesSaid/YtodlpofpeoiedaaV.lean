/-
  FormatBytes: the play ahead of it (miradorlaw13.works).
-/
import Derived.Test.YtodlpofpeoiedaaQ4
import Derived.Test.YtodlpofpeoiedaaN2
namespace Go.Proofs.Ytodlpofpeoiedaa
open Go.RowKit

set_option maxHeartbeats 400000 in
theorem rstandard_any (w : World) : Calls Try.prog 22 #[] w fun e w' => e = .returned (.agg #[.int .i64 32, .int .i64 24, .bool false, .bool true, .int .i64 255, .int .i64 255, .int .i64 255, .int .i64 16, .int .i64 8, .int .i64 0]) ∧ Below w.heap.size w w' := by
  go_enter Try.func22, Try.ntmps22
  go_wp2
  go_outline
  exact bodyPost_ret (v := .agg #[.int .i64 32, .int .i64 24, .bool false, .bool true, .int .i64 255, .int .i64 255, .int .i64 255, .int .i64 16, .int .i64 8, .int .i64 0]) (by simp [results, Try.results22, go_sem]) rfl ⟨rfl, (Below.refl _ _).alloc (Nat.le_refl _) _⟩

set_option maxHeartbeats 400000 in
theorem high_any (w : World) : Calls Try.prog 71 #[] w fun e w' => e = .returned (.agg #[.int .i64 16, .int .i64 16, .bool false, .bool true, .int .i64 31, .int .i64 63, .int .i64 31, .int .i64 11, .int .i64 5, .int .i64 0]) ∧ Below w.heap.size w w' := by
  go_enter Try.func71, Try.ntmps71
  go_wp2
  go_outline
  exact bodyPost_ret (v := .agg #[.int .i64 16, .int .i64 16, .bool false, .bool true, .int .i64 31, .int .i64 63, .int .i64 31, .int .i64 11, .int .i64 5, .int .i64 0]) (by simp [results, Try.results71, go_sem]) rfl ⟨rfl, (Below.refl _ _).alloc (Nat.le_refl _) _⟩

def highF : Fmt := ⟨16, 16, false, true, 31, 63, 31, 11, 5, 0⟩
def standF : Fmt := ⟨32, 24, false, true, 255, 255, 255, 16, 8, 0⟩
theorem high_ok : validB highF = true := by kernel_rfl
theorem stand_ok : validB standF = true := by kernel_rfl
theorem high_val : valV highF 16744448 = 64512 := by kernel_rfl
theorem high_quant : quantV highF 16744448 = 16744960 := by kernel_rfl
theorem stand_quant : quantV standF 1193046 = 1193046 := by kernel_rfl
theorem high_bytes : bytesF highF = ⟨#[16, 16, 0, 1, 0, 31, 0, 63, 0, 31, 11, 5, 0, 0, 0, 0]⟩ := by kernel_rfl
theorem high_parseE : parseE ⟨#[16, 16, 0, 1, 0, 31, 0, 63, 0, 31, 11, 5, 0, 0, 0, 0]⟩ = 0 := by kernel_rfl
theorem high_parse : parseF ⟨#[16, 16, 0, 1, 0, 31, 0, 63, 0, 31, 11, 5, 0, 0, 0, 0]⟩ = highF := by
  have : rawF ⟨#[16, 16, 0, 1, 0, 31, 0, 63, 0, 31, 11, 5, 0, 0, 0, 0]⟩ = highF := by kernel_rfl
  unfold parseF
  rw [high_parseE, this]
  rfl

set_option maxHeartbeats 1600000 in
set_option maxRecDepth 100000 in
theorem works14_walk (S : ByteArray) (w : World)
    (K19 : Hid (∀ w, Calls Try.prog 19 #[.agg #[.int .i64 16, .int .i64 16, .bool false, .bool true, .int .i64 31, .int .i64 63, .int .i64 31, .int .i64 11, .int .i64 5, .int .i64 0]] w fun e w' => e = .returned (.string S) ∧ Below w.heap.size w w'))
    (K15 : Hid (∀ w, Calls Try.prog 15 #[.string S] w fun e w' => e = .returned (.tuple #[.agg #[.int .i64 16, .int .i64 16, .bool false, .bool true, .int .i64 31, .int .i64 63, .int .i64 31, .int .i64 11, .int .i64 5, .int .i64 0], .int .i64 0]) ∧ Below w.heap.size w w'))
    (K17 : Hid (∀ w, Calls Try.prog 17 #[.agg #[.int .i64 16, .int .i64 16, .bool false, .bool true, .int .i64 31, .int .i64 63, .int .i64 31, .int .i64 11, .int .i64 5, .int .i64 0]] w fun e w' => e = .returned (.bool true) ∧ Below w.heap.size w w'))
    (K39 : Hid (∀ w, Calls Try.prog 39 #[.agg #[.int .i64 16, .int .i64 16, .bool false, .bool true, .int .i64 31, .int .i64 63, .int .i64 31, .int .i64 11, .int .i64 5, .int .i64 0], .int .i64 16744448] w fun e w' => e = .returned (.int .i64 64512) ∧ Below w.heap.size w w'))
    (K28 : Hid (∀ w, Calls Try.prog 28 #[.agg #[.int .i64 16, .int .i64 16, .bool false, .bool true, .int .i64 31, .int .i64 63, .int .i64 31, .int .i64 11, .int .i64 5, .int .i64 0], .int .i64 16744448] w fun e w' => e = .returned (.int .i64 16744960) ∧ Below w.heap.size w w'))
    (K29 : Hid (∀ w, Calls Try.prog 28 #[.agg #[.int .i64 32, .int .i64 24, .bool false, .bool true, .int .i64 255, .int .i64 255, .int .i64 255, .int .i64 16, .int .i64 8, .int .i64 0], .int .i64 1193046] w fun e w' => e = .returned (.int .i64 1193046) ∧ Below w.heap.size w w')) :
    Calls Try.prog 14 #[] w fun e w' => e = .returned (.bool true) ∧ Below w.heap.size w w' := by
  go_enter Try.func14, Try.ntmps14
  go_wp2_with fail
  refine (high_any _).mono ?_
  rintro e w1 ⟨rfl, hb1⟩
  have B1 := hide hb1
  clear hb1
  have hz1 := B1.out.size
  go_wp2_with fail
  refine (K19.out _).mono ?_
  rintro e w2 ⟨rfl, hb2⟩
  have F2 := hide ((Blk.new w1 23 #[.int .i64 16, .int .i64 16, .bool false, .bool true, .int .i64 31, .int .i64 63, .int .i64 31, .int .i64 11, .int .i64 5, .int .i64 0]).below hb2)
  have B2 := hide ((B1.out.alloc B1.out.size _).trans (hb2.mono (by rw [World.size_alloc]; exact Nat.le_succ_of_le B1.out.size)))
  have hz2 := F2.out.lt
  clear hb2
  go_wp2_with fail
  refine (K15.out _).mono ?_
  rintro e w3 ⟨rfl, hb3⟩
  have F3 := hide (F2.out.below hb3)
  have B3 := hide (B2.out.trans (hb3.mono B2.out.size))
  have hz3 := F3.out.lt
  clear hb3
  have g0 : w3.cell? ⟨w1.heap.size, 0, none⟩ = some (.int .i64 16) := F3.out.cell 0
  have p0 : w3.frozen? ⟨w1.heap.size, 0, none⟩ = false := F3.out.fr 0
  have g1 : w3.cell? ⟨w1.heap.size, 1, none⟩ = some (.int .i64 16) := F3.out.cell 1
  have p1 : w3.frozen? ⟨w1.heap.size, 1, none⟩ = false := F3.out.fr 1
  have g2 : w3.cell? ⟨w1.heap.size, 2, none⟩ = some (.bool false) := F3.out.cell 2
  have p2 : w3.frozen? ⟨w1.heap.size, 2, none⟩ = false := F3.out.fr 2
  have g3 : w3.cell? ⟨w1.heap.size, 3, none⟩ = some (.bool true) := F3.out.cell 3
  have p3 : w3.frozen? ⟨w1.heap.size, 3, none⟩ = false := F3.out.fr 3
  have g4 : w3.cell? ⟨w1.heap.size, 4, none⟩ = some (.int .i64 31) := F3.out.cell 4
  have p4 : w3.frozen? ⟨w1.heap.size, 4, none⟩ = false := F3.out.fr 4
  have g5 : w3.cell? ⟨w1.heap.size, 5, none⟩ = some (.int .i64 63) := F3.out.cell 5
  have p5 : w3.frozen? ⟨w1.heap.size, 5, none⟩ = false := F3.out.fr 5
  have g6 : w3.cell? ⟨w1.heap.size, 6, none⟩ = some (.int .i64 31) := F3.out.cell 6
  have p6 : w3.frozen? ⟨w1.heap.size, 6, none⟩ = false := F3.out.fr 6
  have g7 : w3.cell? ⟨w1.heap.size, 7, none⟩ = some (.int .i64 11) := F3.out.cell 7
  have p7 : w3.frozen? ⟨w1.heap.size, 7, none⟩ = false := F3.out.fr 7
  have g8 : w3.cell? ⟨w1.heap.size, 8, none⟩ = some (.int .i64 5) := F3.out.cell 8
  have p8 : w3.frozen? ⟨w1.heap.size, 8, none⟩ = false := F3.out.fr 8
  have g9 : w3.cell? ⟨w1.heap.size, 9, none⟩ = some (.int .i64 0) := F3.out.cell 9
  have p9 : w3.frozen? ⟨w1.heap.size, 9, none⟩ = false := F3.out.fr 9
  go_wp2_with fail
  refine (K17.out _).mono ?_
  rintro e w4 ⟨rfl, hb4⟩
  have F4 := hide ((F3.out.alloc _).below hb4)
  have G4 := hide ((Blk.new w3 23 #[.int .i64 16, .int .i64 16, .bool false, .bool true, .int .i64 31, .int .i64 63, .int .i64 31, .int .i64 11, .int .i64 5, .int .i64 0]).below hb4)
  have B4 := hide ((B3.out.alloc B3.out.size _).trans (hb4.mono (by rw [World.size_alloc]; exact Nat.le_succ_of_le B3.out.size)))
  clear hb4
  have f40 : w4.cell? ⟨w1.heap.size, 0, none⟩ = some (.int .i64 16) := F4.out.cell 0
  have h40 : w4.frozen? ⟨w1.heap.size, 0, none⟩ = false := F4.out.fr 0
  have f41 : w4.cell? ⟨w1.heap.size, 1, none⟩ = some (.int .i64 16) := F4.out.cell 1
  have h41 : w4.frozen? ⟨w1.heap.size, 1, none⟩ = false := F4.out.fr 1
  have f42 : w4.cell? ⟨w1.heap.size, 2, none⟩ = some (.bool false) := F4.out.cell 2
  have h42 : w4.frozen? ⟨w1.heap.size, 2, none⟩ = false := F4.out.fr 2
  have f43 : w4.cell? ⟨w1.heap.size, 3, none⟩ = some (.bool true) := F4.out.cell 3
  have h43 : w4.frozen? ⟨w1.heap.size, 3, none⟩ = false := F4.out.fr 3
  have f44 : w4.cell? ⟨w1.heap.size, 4, none⟩ = some (.int .i64 31) := F4.out.cell 4
  have h44 : w4.frozen? ⟨w1.heap.size, 4, none⟩ = false := F4.out.fr 4
  have f45 : w4.cell? ⟨w1.heap.size, 5, none⟩ = some (.int .i64 63) := F4.out.cell 5
  have h45 : w4.frozen? ⟨w1.heap.size, 5, none⟩ = false := F4.out.fr 5
  have f46 : w4.cell? ⟨w1.heap.size, 6, none⟩ = some (.int .i64 31) := F4.out.cell 6
  have h46 : w4.frozen? ⟨w1.heap.size, 6, none⟩ = false := F4.out.fr 6
  have f47 : w4.cell? ⟨w1.heap.size, 7, none⟩ = some (.int .i64 11) := F4.out.cell 7
  have h47 : w4.frozen? ⟨w1.heap.size, 7, none⟩ = false := F4.out.fr 7
  have f48 : w4.cell? ⟨w1.heap.size, 8, none⟩ = some (.int .i64 5) := F4.out.cell 8
  have h48 : w4.frozen? ⟨w1.heap.size, 8, none⟩ = false := F4.out.fr 8
  have f49 : w4.cell? ⟨w1.heap.size, 9, none⟩ = some (.int .i64 0) := F4.out.cell 9
  have h49 : w4.frozen? ⟨w1.heap.size, 9, none⟩ = false := F4.out.fr 9
  go_wp2_with fail
  refine (K39.out _).mono ?_
  rintro e w5 ⟨rfl, hb5⟩
  have F5 := hide (F4.out.below hb5)
  have G5 := hide (G4.out.below hb5)
  have B5 := hide (B4.out.trans (hb5.mono B4.out.size))
  clear hb5
  have f50 : w5.cell? ⟨w1.heap.size, 0, none⟩ = some (.int .i64 16) := F5.out.cell 0
  have h50 : w5.frozen? ⟨w1.heap.size, 0, none⟩ = false := F5.out.fr 0
  have f51 : w5.cell? ⟨w1.heap.size, 1, none⟩ = some (.int .i64 16) := F5.out.cell 1
  have h51 : w5.frozen? ⟨w1.heap.size, 1, none⟩ = false := F5.out.fr 1
  have f52 : w5.cell? ⟨w1.heap.size, 2, none⟩ = some (.bool false) := F5.out.cell 2
  have h52 : w5.frozen? ⟨w1.heap.size, 2, none⟩ = false := F5.out.fr 2
  have f53 : w5.cell? ⟨w1.heap.size, 3, none⟩ = some (.bool true) := F5.out.cell 3
  have h53 : w5.frozen? ⟨w1.heap.size, 3, none⟩ = false := F5.out.fr 3
  have f54 : w5.cell? ⟨w1.heap.size, 4, none⟩ = some (.int .i64 31) := F5.out.cell 4
  have h54 : w5.frozen? ⟨w1.heap.size, 4, none⟩ = false := F5.out.fr 4
  have f55 : w5.cell? ⟨w1.heap.size, 5, none⟩ = some (.int .i64 63) := F5.out.cell 5
  have h55 : w5.frozen? ⟨w1.heap.size, 5, none⟩ = false := F5.out.fr 5
  have f56 : w5.cell? ⟨w1.heap.size, 6, none⟩ = some (.int .i64 31) := F5.out.cell 6
  have h56 : w5.frozen? ⟨w1.heap.size, 6, none⟩ = false := F5.out.fr 6
  have f57 : w5.cell? ⟨w1.heap.size, 7, none⟩ = some (.int .i64 11) := F5.out.cell 7
  have h57 : w5.frozen? ⟨w1.heap.size, 7, none⟩ = false := F5.out.fr 7
  have f58 : w5.cell? ⟨w1.heap.size, 8, none⟩ = some (.int .i64 5) := F5.out.cell 8
  have h58 : w5.frozen? ⟨w1.heap.size, 8, none⟩ = false := F5.out.fr 8
  have f59 : w5.cell? ⟨w1.heap.size, 9, none⟩ = some (.int .i64 0) := F5.out.cell 9
  have h59 : w5.frozen? ⟨w1.heap.size, 9, none⟩ = false := F5.out.fr 9
  go_wp2_with fail
  refine (K28.out _).mono ?_
  rintro e w6 ⟨rfl, hb6⟩
  have F6 := hide (F5.out.below hb6)
  have G6 := hide (G5.out.below hb6)
  have B6 := hide (B5.out.trans (hb6.mono B5.out.size))
  clear hb6
  have f60 : w6.cell? ⟨w1.heap.size, 0, none⟩ = some (.int .i64 16) := F6.out.cell 0
  have h60 : w6.frozen? ⟨w1.heap.size, 0, none⟩ = false := F6.out.fr 0
  have f61 : w6.cell? ⟨w1.heap.size, 1, none⟩ = some (.int .i64 16) := F6.out.cell 1
  have h61 : w6.frozen? ⟨w1.heap.size, 1, none⟩ = false := F6.out.fr 1
  have f62 : w6.cell? ⟨w1.heap.size, 2, none⟩ = some (.bool false) := F6.out.cell 2
  have h62 : w6.frozen? ⟨w1.heap.size, 2, none⟩ = false := F6.out.fr 2
  have f63 : w6.cell? ⟨w1.heap.size, 3, none⟩ = some (.bool true) := F6.out.cell 3
  have h63 : w6.frozen? ⟨w1.heap.size, 3, none⟩ = false := F6.out.fr 3
  have f64 : w6.cell? ⟨w1.heap.size, 4, none⟩ = some (.int .i64 31) := F6.out.cell 4
  have h64 : w6.frozen? ⟨w1.heap.size, 4, none⟩ = false := F6.out.fr 4
  have f65 : w6.cell? ⟨w1.heap.size, 5, none⟩ = some (.int .i64 63) := F6.out.cell 5
  have h65 : w6.frozen? ⟨w1.heap.size, 5, none⟩ = false := F6.out.fr 5
  have f66 : w6.cell? ⟨w1.heap.size, 6, none⟩ = some (.int .i64 31) := F6.out.cell 6
  have h66 : w6.frozen? ⟨w1.heap.size, 6, none⟩ = false := F6.out.fr 6
  have f67 : w6.cell? ⟨w1.heap.size, 7, none⟩ = some (.int .i64 11) := F6.out.cell 7
  have h67 : w6.frozen? ⟨w1.heap.size, 7, none⟩ = false := F6.out.fr 7
  have f68 : w6.cell? ⟨w1.heap.size, 8, none⟩ = some (.int .i64 5) := F6.out.cell 8
  have h68 : w6.frozen? ⟨w1.heap.size, 8, none⟩ = false := F6.out.fr 8
  have f69 : w6.cell? ⟨w1.heap.size, 9, none⟩ = some (.int .i64 0) := F6.out.cell 9
  have h69 : w6.frozen? ⟨w1.heap.size, 9, none⟩ = false := F6.out.fr 9
  have f70 : w6.cell? ⟨w3.heap.size, 0, none⟩ = some (.int .i64 16) := G6.out.cell 0
  have h70 : w6.frozen? ⟨w3.heap.size, 0, none⟩ = false := G6.out.fr 0
  have f71 : w6.cell? ⟨w3.heap.size, 1, none⟩ = some (.int .i64 16) := G6.out.cell 1
  have h71 : w6.frozen? ⟨w3.heap.size, 1, none⟩ = false := G6.out.fr 1
  have f72 : w6.cell? ⟨w3.heap.size, 2, none⟩ = some (.bool false) := G6.out.cell 2
  have h72 : w6.frozen? ⟨w3.heap.size, 2, none⟩ = false := G6.out.fr 2
  have f73 : w6.cell? ⟨w3.heap.size, 3, none⟩ = some (.bool true) := G6.out.cell 3
  have h73 : w6.frozen? ⟨w3.heap.size, 3, none⟩ = false := G6.out.fr 3
  have f74 : w6.cell? ⟨w3.heap.size, 4, none⟩ = some (.int .i64 31) := G6.out.cell 4
  have h74 : w6.frozen? ⟨w3.heap.size, 4, none⟩ = false := G6.out.fr 4
  have f75 : w6.cell? ⟨w3.heap.size, 5, none⟩ = some (.int .i64 63) := G6.out.cell 5
  have h75 : w6.frozen? ⟨w3.heap.size, 5, none⟩ = false := G6.out.fr 5
  have f76 : w6.cell? ⟨w3.heap.size, 6, none⟩ = some (.int .i64 31) := G6.out.cell 6
  have h76 : w6.frozen? ⟨w3.heap.size, 6, none⟩ = false := G6.out.fr 6
  have f77 : w6.cell? ⟨w3.heap.size, 7, none⟩ = some (.int .i64 11) := G6.out.cell 7
  have h77 : w6.frozen? ⟨w3.heap.size, 7, none⟩ = false := G6.out.fr 7
  have f78 : w6.cell? ⟨w3.heap.size, 8, none⟩ = some (.int .i64 5) := G6.out.cell 8
  have h78 : w6.frozen? ⟨w3.heap.size, 8, none⟩ = false := G6.out.fr 8
  have f79 : w6.cell? ⟨w3.heap.size, 9, none⟩ = some (.int .i64 0) := G6.out.cell 9
  have h79 : w6.frozen? ⟨w3.heap.size, 9, none⟩ = false := G6.out.fr 9
  go_wp2_with fail
  refine (standard_any _).mono ?_
  rintro e w7 ⟨rfl, hb7⟩
  have B7 := hide (B6.out.trans (hb7.mono B6.out.size))
  clear hb7
  go_wp2_with fail
  refine (K29.out _).mono ?_
  rintro e w8 ⟨rfl, hb8⟩
  have B8 := hide (B7.out.trans (hb8.mono B7.out.size))
  clear hb8
  go_wp2_with fail
  go_ret
  exact ⟨rfl, B8.out⟩

/-- The play ahead of FormatBytes goes well. -/
theorem works14_any (w : World) : Calls Try.prog 14 #[] w fun e w' => e = .returned (.bool true) ∧ Below w.heap.size w w' := by
  refine works14_walk ⟨#[16, 16, 0, 1, 0, 31, 0, 63, 0, 31, 11, 5, 0, 0, 0, 0]⟩ w (fun w => ?_) (fun w => ?_) (fun w => ?_) (fun w => ?_) (fun w => ?_) (fun w => ?_)
  · have h := fbytes_any highF w
    rw [high_bytes] at h
    exact h
  · have h := parse_any ⟨#[16, 16, 0, 1, 0, 31, 0, 63, 0, 31, 11, 5, 0, 0, 0, 0]⟩ w (by decide)
    rw [high_parse, high_parseE] at h
    exact h
  · have h := valid_any highF w (by decide) (by decide) (by decide)
    rw [high_ok] at h
    exact h
  · have h := value_any highF 16744448 w high_ok
    rw [high_val] at h
    exact h
  · have h := quant_any highF 16744448 w high_ok
    rw [high_quant] at h
    exact h
  · have h := quant_any standF 1193046 w stand_ok
    rw [stand_quant] at h
    exact h

end Go.Proofs.Ytodlpofpeoiedaa
