/-
  plain's play: the document's example goes well.
-/
import Derived.Test.YtodlpofpeoiedaaCE
import Derived.Test.YtodlpofpeoiedaaV
namespace Go.Proofs.Ytodlpofpeoiedaa
open Go.RowKit Go.Sort

set_option maxHeartbeats 1600000 in
set_option maxRecDepth 100000 in
theorem works23_walk (w : World)
    (K26 : Hid (∀ w, Calls Try.prog 26 #[.agg #[.int .i64 32, .int .i64 24, .bool false, .bool true, .int .i64 255, .int .i64 255, .int .i64 255, .int .i64 16, .int .i64 8, .int .i64 0], .int .i64 1, .int .i64 1, .string ⟨#[3, 2, 1, 0, 120]⟩] w fun e w' =>
      ∃ g cap, e = .returned (.tuple #[.slice (some ⟨g, 0, none⟩) 1 cap, .int .i64 4, .int .i64 0]) ∧ g < w'.heap.size ∧ w'.cell? ⟨g, 0 + 0, none⟩ = some (.int .i64 66051) ∧ Below w.heap.size w w'))
    (K25 : Hid (∀ b cap w, w.cell? ⟨b, 0, none⟩ = some (.int .i64 66051) → b < w.heap.size → Calls Try.prog 25 #[.agg #[.int .i64 32, .int .i64 24, .bool false, .bool true, .int .i64 255, .int .i64 255, .int .i64 255, .int .i64 16, .int .i64 8, .int .i64 0], .slice (some ⟨b, 0, none⟩) 1 cap] w fun e w' => e = .returned (.string ⟨#[3, 2, 1, 0]⟩) ∧ Below w.heap.size w w')) :
    Calls Try.prog 23 #[] w fun e w' => e = .returned (.bool true) ∧ Below w.heap.size w w' := by
  go_enter Try.func23, Try.ntmps23
  go_wp2_with fail
  refine (standard_any _).mono ?_
  rintro e w1 ⟨rfl, hb1⟩
  have B1 := hide hb1
  clear hb1
  go_wp2_with fail
  refine (K26.out _).mono ?_
  rintro e w2 ⟨g, cap, rfl, hg, hc, hb2⟩
  have F2 := hide ((Blk.new w1 23 (fmtC standF)).below hb2)
  have B2 := hide ((B1.out.alloc B1.out.size _).trans (hb2.mono (by rw [World.size_alloc]; exact Nat.le_succ_of_le B1.out.size)))
  have HC := hide hc
  clear hc hb2
  go_wp2_with fail
  refine (row_walk g 0 w2.heap.size 0 1 cap 1 [66051] [66051] _ rfl rfl (by decide) (by simp; omega) (by simp) (hide fun j hj => ?_) (hide fun j hj => ?_)).mono ?_
  · obtain rfl : j = 0 := by omega
    rw [((Below.refl w2.heap.size w2).alloc (Nat.le_refl _) _).cell (p := ⟨g, 0 + 0, none⟩) hg]
    exact HC.out
  · obtain rfl : j = 0 := by omega
    exact (Blk.new w2 3 #[.int .i64 66051]).cell 0
  rintro e w3 ⟨rfl, hb3⟩
  have F3 := hide ((F2.out.alloc _).below hb3)
  have B3 := hide ((B2.out.alloc B2.out.size _).trans (hb3.mono (by rw [World.size_alloc]; exact Nat.le_succ_of_le B2.out.size)))
  clear hb3
  have f0 : w3.cell? ⟨w1.heap.size, 0, none⟩ = some (.int .i64 32) := F3.out.cell 0
  have f1 : w3.cell? ⟨w1.heap.size, 1, none⟩ = some (.int .i64 24) := F3.out.cell 1
  have f2 : w3.cell? ⟨w1.heap.size, 2, none⟩ = some (.bool false) := F3.out.cell 2
  have f3 : w3.cell? ⟨w1.heap.size, 3, none⟩ = some (.bool true) := F3.out.cell 3
  have f4 : w3.cell? ⟨w1.heap.size, 4, none⟩ = some (.int .i64 255) := F3.out.cell 4
  have f5 : w3.cell? ⟨w1.heap.size, 5, none⟩ = some (.int .i64 255) := F3.out.cell 5
  have f6 : w3.cell? ⟨w1.heap.size, 6, none⟩ = some (.int .i64 255) := F3.out.cell 6
  have f7 : w3.cell? ⟨w1.heap.size, 7, none⟩ = some (.int .i64 16) := F3.out.cell 7
  have f8 : w3.cell? ⟨w1.heap.size, 8, none⟩ = some (.int .i64 8) := F3.out.cell 8
  have f9 : w3.cell? ⟨w1.heap.size, 9, none⟩ = some (.int .i64 0) := F3.out.cell 9
  go_wp2_with fail
  refine (K25.out w3.heap.size 1 _ ((Blk.new w3 3 #[.int .i64 66051]).cell 0) (by simp)).mono ?_
  rintro e w4 ⟨rfl, hb4⟩
  have B4 := hide ((B3.out.alloc B3.out.size _).trans (hb4.mono (by rw [World.size_alloc]; exact Nat.le_succ_of_le B3.out.size)))
  clear hb4
  go_wp2_with fail
  go_ret
  exact ⟨rfl, B4.out⟩

theorem stand_fit : standF.fit := by unfold Fmt.fit standF; exact ⟨by decide, by decide, by decide⟩
theorem stand_fits : fitsB standF 1 1 = true := by kernel_rfl
theorem stand_size : sizeN standF = 4 := by kernel_rfl
theorem stand_pix : pixL standF ⟨#[3, 2, 1, 0, 120]⟩ 1 = [66051] := by kernel_rfl
theorem stand_raw : rawB standF [66051] = ⟨#[3, 2, 1, 0]⟩ := by kernel_rfl

/-- miradorlaw16.works: the play goes well. -/
theorem works23_any (w : World) : Calls Try.prog 23 #[] w fun e w' => e = .returned (.bool true) ∧ Below w.heap.size w w' := by
  refine works23_walk w (hide fun w => ?_) (hide fun b cap w hc hb => ?_)
  · refine (rawOf_yes standF 1 1 1 ⟨#[3, 2, 1, 0, 120]⟩ w stand_fit stand_fits (by decide) (by rw [stand_size]; decide) (by decide)).mono ?_
    rintro e w' ⟨v, rfl, ho, hb⟩
    rw [stand_pix] at ho
    rw [stand_size]
    obtain ⟨g, cap, rfl⟩ := ownsRow_succ (k := 0) ho
    refine ⟨g, cap, rfl, ?_, ?_, hb⟩
    · obtain ⟨c, hc⟩ := own_kind ho g rfl
      exact (Array.getElem?_eq_some_iff.1 hc).1
    · exact ho.cellAt 0 (by decide)
  · have := raw_any standF (some ⟨b, 0, none⟩) 1 cap [66051] w stand_fit (by decide) ⟨rfl, .inr ⟨b, 0, rfl, hb, fun j hj => ?_⟩⟩
    · rw [stand_raw] at this
      exact this
    · obtain rfl : j = 0 := by omega
      exact hc

end Go.Proofs.Ytodlpofpeoiedaa
