/-
  The contract of miradorref13.Parse.
-/
import Derived.Test.YtodlpofpeoiedaaQ
import Derived.Deep.Cut
namespace Go.Proofs.Ytodlpofpeoiedaa
open Go.RowKit

theorem byte_at (s : ByteArray) (i : Nat) : ∀ h : i < s.size, ((s[i]'h).toNat : Int) = byteV s i := by
  intro h
  unfold byteV
  have e : (s.extract i (i + 1)).data.toList = [s[i]] := by
    rw [ByteArray.data_extract, Array.toList_extract, List.extract_eq_take_drop]
    have h' : i < s.data.toList.length := by simpa using h
    have : i + 1 - i = 1 := by omega
    rw [this, List.drop_eq_getElem_cons h']
    rfl
  rw [e]
  simp [beV]

theorem byteV_bd (s : ByteArray) (i : Nat) : 0 ≤ byteV s i ∧ byteV s i ≤ 255 := by
  by_cases h : i < s.size
  · rw [← byte_at s i h]
    have := (s[i]'h).toNat_lt
    omega
  · have : (s.extract i (i + 1)).data.toList = [] := by
      rw [ByteArray.data_extract, Array.toList_extract, List.extract_eq_take_drop]
      simp
      omega
    unfold byteV
    rw [this]
    simp [beV]

set_option maxHeartbeats 1600000 in
set_option maxRecDepth 100000 in
theorem rparse_short (s : ByteArray) (w : World) (h16 : s.size < 16) :
    Calls Try.prog 16 #[.string s] w fun e w' => e = .returned (.tuple #[fmtV zeroF, .int .i64 2]) ∧ Below w.heap.size w w' := by
  have h1 : (s.size : Int) < 16 := by omega
  have R1 := hide (Blk.new w 23 #[.int .i64 0, .int .i64 0, .bool false, .bool false, .int .i64 0, .int .i64 0, .int .i64 0, .int .i64 0, .int .i64 0, .int .i64 0])
  have B1 := hide ((Below.refl w.heap.size w).alloc (Nat.le_refl _) (.cells #[.int .i64 0, .int .i64 0, .bool false, .bool false, .int .i64 0, .int .i64 0, .int .i64 0, .int .i64 0, .int .i64 0, .int .i64 0] 23))
  go_enter Try.func16, Try.ntmps16
  go_upto_region 2 with fail
  generalize w.alloc (.cells #[.int .i64 0, .int .i64 0, .bool false, .bool false, .int .i64 0, .int .i64 0, .int .i64 0, .int .i64 0, .int .i64 0, .int .i64 0] 23) = w1 at *
  have g0 : w1.cell? ⟨w.heap.size, 0, none⟩ = some (.int .i64 0) := R1.out.cell 0
  have p0 : w1.frozen? ⟨w.heap.size, 0, none⟩ = false := R1.out.fr 0
  have g1 : w1.cell? ⟨w.heap.size, 1, none⟩ = some (.int .i64 0) := R1.out.cell 1
  have p1 : w1.frozen? ⟨w.heap.size, 1, none⟩ = false := R1.out.fr 1
  have g2 : w1.cell? ⟨w.heap.size, 2, none⟩ = some (.bool false) := R1.out.cell 2
  have p2 : w1.frozen? ⟨w.heap.size, 2, none⟩ = false := R1.out.fr 2
  have g3 : w1.cell? ⟨w.heap.size, 3, none⟩ = some (.bool false) := R1.out.cell 3
  have p3 : w1.frozen? ⟨w.heap.size, 3, none⟩ = false := R1.out.fr 3
  have g4 : w1.cell? ⟨w.heap.size, 4, none⟩ = some (.int .i64 0) := R1.out.cell 4
  have p4 : w1.frozen? ⟨w.heap.size, 4, none⟩ = false := R1.out.fr 4
  have g5 : w1.cell? ⟨w.heap.size, 5, none⟩ = some (.int .i64 0) := R1.out.cell 5
  have p5 : w1.frozen? ⟨w.heap.size, 5, none⟩ = false := R1.out.fr 5
  have g6 : w1.cell? ⟨w.heap.size, 6, none⟩ = some (.int .i64 0) := R1.out.cell 6
  have p6 : w1.frozen? ⟨w.heap.size, 6, none⟩ = false := R1.out.fr 6
  have g7 : w1.cell? ⟨w.heap.size, 7, none⟩ = some (.int .i64 0) := R1.out.cell 7
  have p7 : w1.frozen? ⟨w.heap.size, 7, none⟩ = false := R1.out.fr 7
  have g8 : w1.cell? ⟨w.heap.size, 8, none⟩ = some (.int .i64 0) := R1.out.cell 8
  have p8 : w1.frozen? ⟨w.heap.size, 8, none⟩ = false := R1.out.fr 8
  have g9 : w1.cell? ⟨w.heap.size, 9, none⟩ = some (.int .i64 0) := R1.out.cell 9
  have p9 : w1.frozen? ⟨w.heap.size, 9, none⟩ = false := R1.out.fr 9
  go_wp2_with fail
  have RF0 := hide (show Blk w.heap.size 23 #[.int .i64 0, .int .i64 0, .bool false, .bool false, .int .i64 0, .int .i64 0, .int .i64 0, .int .i64 0, .int .i64 0, .int .i64 0] _ from R1.out.set 0 (.int .i64 0))
  have RF1 := hide (show Blk w.heap.size 23 #[.int .i64 0, .int .i64 0, .bool false, .bool false, .int .i64 0, .int .i64 0, .int .i64 0, .int .i64 0, .int .i64 0, .int .i64 0] _ from RF0.out.set 1 (.int .i64 0))
  have RF2 := hide (show Blk w.heap.size 23 #[.int .i64 0, .int .i64 0, .bool false, .bool false, .int .i64 0, .int .i64 0, .int .i64 0, .int .i64 0, .int .i64 0, .int .i64 0] _ from RF1.out.set 2 (.bool false))
  have RF3 := hide (show Blk w.heap.size 23 #[.int .i64 0, .int .i64 0, .bool false, .bool false, .int .i64 0, .int .i64 0, .int .i64 0, .int .i64 0, .int .i64 0, .int .i64 0] _ from RF2.out.set 3 (.bool false))
  have RF4 := hide (show Blk w.heap.size 23 #[.int .i64 0, .int .i64 0, .bool false, .bool false, .int .i64 0, .int .i64 0, .int .i64 0, .int .i64 0, .int .i64 0, .int .i64 0] _ from RF3.out.set 4 (.int .i64 0))
  have RF5 := hide (show Blk w.heap.size 23 #[.int .i64 0, .int .i64 0, .bool false, .bool false, .int .i64 0, .int .i64 0, .int .i64 0, .int .i64 0, .int .i64 0, .int .i64 0] _ from RF4.out.set 5 (.int .i64 0))
  have RF6 := hide (show Blk w.heap.size 23 #[.int .i64 0, .int .i64 0, .bool false, .bool false, .int .i64 0, .int .i64 0, .int .i64 0, .int .i64 0, .int .i64 0, .int .i64 0] _ from RF5.out.set 6 (.int .i64 0))
  have RF7 := hide (show Blk w.heap.size 23 #[.int .i64 0, .int .i64 0, .bool false, .bool false, .int .i64 0, .int .i64 0, .int .i64 0, .int .i64 0, .int .i64 0, .int .i64 0] _ from RF6.out.set 7 (.int .i64 0))
  have RF8 := hide (show Blk w.heap.size 23 #[.int .i64 0, .int .i64 0, .bool false, .bool false, .int .i64 0, .int .i64 0, .int .i64 0, .int .i64 0, .int .i64 0, .int .i64 0] _ from RF7.out.set 8 (.int .i64 0))
  have RF9 := hide (show Blk w.heap.size 23 #[.int .i64 0, .int .i64 0, .bool false, .bool false, .int .i64 0, .int .i64 0, .int .i64 0, .int .i64 0, .int .i64 0, .int .i64 0] _ from RF8.out.set 9 (.int .i64 0))
  exact bodyPost_ret (results_at Try.results16 _ rfl RF9.out Try.underlying23 rfl (by kernel_rfl)) rfl ⟨rfl, ((((((((((B1.out.setCell (p := ⟨w.heap.size, 0, none⟩) (Nat.le_refl _) _).setCell (p := ⟨w.heap.size, 1, none⟩) (Nat.le_refl _) _).setCell (p := ⟨w.heap.size, 2, none⟩) (Nat.le_refl _) _).setCell (p := ⟨w.heap.size, 3, none⟩) (Nat.le_refl _) _).setCell (p := ⟨w.heap.size, 4, none⟩) (Nat.le_refl _) _).setCell (p := ⟨w.heap.size, 5, none⟩) (Nat.le_refl _) _).setCell (p := ⟨w.heap.size, 6, none⟩) (Nat.le_refl _) _).setCell (p := ⟨w.heap.size, 7, none⟩) (Nat.le_refl _) _).setCell (p := ⟨w.heap.size, 8, none⟩) (Nat.le_refl _) _).setCell (p := ⟨w.heap.size, 9, none⟩) (Nat.le_refl _) _)⟩


/-- The document's Parse. -/
theorem rparse_any (s : ByteArray) (w : World) (hs : s.size ≤ 1099511627776) :
    Calls Try.prog 16 #[.string s] w fun e w' => e = .returned (.tuple #[fmtV (parseF s), .int .i64 (parseE s)]) ∧ Below w.heap.size w w' := by
  by_cases h : s.size < 16
  · have e1 : parseE s = 2 := by unfold parseE; rw [if_pos h]
    have e2 : parseF s = zeroF := by unfold parseF; rw [e1]; rfl
    rw [e1, e2]
    exact rparse_short s w h
  · have wr : ∀ i, IntKind.i64.wrap (byteV s i) = byteV s i := fun i => by have := byteV_bd s i; exact IntWalk.i64_in _ (by omega)
    have := rparse_long s (wordV s 4) (wordV s 6) (wordV s 8) (byteV s 0) (byteV s 1) (byteV s 2) (byteV s 3) (byteV s 10) (byteV s 11) (byteV s 12) (validB (rawF s)) w (by omega) hs
      (fun w => rint_eq _ _ w (hide (ext2_size s 4)) (hide rfl)) (fun w => rint_eq _ _ w (hide (ext2_size s 6)) (hide rfl)) (fun w => rint_eq _ _ w (hide (ext2_size s 8)) (hide rfl))
      (fun w => rvalid_any (rawF s) w) (byte_at s 0) (byte_at s 1) (byte_at s 2) (byte_at s 3) (byte_at s 10) (byte_at s 11) (byte_at s 12) (wr 0) (wr 1) (wr 10) (wr 11) (wr 12)
    refine this.mono ?_
    rintro e w' ⟨rfl, hb⟩
    refine ⟨?_, hb⟩
    unfold parseF parseE
    rw [if_neg h]
    cases validB (rawF s) <;> rfl

end Go.Proofs.Ytodlpofpeoiedaa
