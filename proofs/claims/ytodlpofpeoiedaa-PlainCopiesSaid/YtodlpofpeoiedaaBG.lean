/-
  The colours of bytes: plain.RawOf, where there are none.
-/
import Derived.Test.YtodlpofpeoiedaaBF
namespace Go.Proofs.Ytodlpofpeoiedaa
open Go.RowKit Go.Sort

set_option maxHeartbeats 1600000 in
set_option maxRecDepth 100000 in
theorem rawOf_no (f : Fmt) (a b : Int) (s : ByteArray) (w : World)
    (K24 : Hid (∀ w, Calls Try.prog 24 #[fmtV f, .int .i64 a, .int .i64 b] w fun e w' => e = .returned (.bool false) ∧ Below w.heap.size w w'))
    : Calls Try.prog 26 #[fmtV f, .int .i64 a, .int .i64 b, .string s] w fun e w' => e = .returned (.tuple #[.slice none 0 0, .int .i64 0, .int .i64 1]) ∧ Below w.heap.size w w' := by
  have F0 := hide (Blk.new w 23 #[.int .i64 f.bits, .int .i64 f.depth, .bool f.big, .bool f.tru, .int .i64 f.rm, .int .i64 f.gm, .int .i64 f.bm, .int .i64 f.rs, .int .i64 f.gs, .int .i64 f.bs])
  have B0 := hide ((Below.refl w.heap.size w).alloc (Nat.le_refl _) (.cells #[.int .i64 f.bits, .int .i64 f.depth, .bool f.big, .bool f.tru, .int .i64 f.rm, .int .i64 f.gm, .int .i64 f.bm, .int .i64 f.rs, .int .i64 f.gs, .int .i64 f.bs] 23))
  go_enter Try.func26, Try.ntmps26
  go_upto_region 1 with fail
  generalize w.alloc (.cells #[.int .i64 f.bits, .int .i64 f.depth, .bool f.big, .bool f.tru, .int .i64 f.rm, .int .i64 f.gm, .int .i64 f.bm, .int .i64 f.rs, .int .i64 f.gs, .int .i64 f.bs] 23) = w0 at *
  have f0 : w0.cell? ⟨w.heap.size, 0, none⟩ = some (.int .i64 f.bits) := F0.out.cell 0
  have f1 : w0.cell? ⟨w.heap.size, 1, none⟩ = some (.int .i64 f.depth) := F0.out.cell 1
  have f2 : w0.cell? ⟨w.heap.size, 2, none⟩ = some (.bool f.big) := F0.out.cell 2
  have f3 : w0.cell? ⟨w.heap.size, 3, none⟩ = some (.bool f.tru) := F0.out.cell 3
  have f4 : w0.cell? ⟨w.heap.size, 4, none⟩ = some (.int .i64 f.rm) := F0.out.cell 4
  have f5 : w0.cell? ⟨w.heap.size, 5, none⟩ = some (.int .i64 f.gm) := F0.out.cell 5
  have f6 : w0.cell? ⟨w.heap.size, 6, none⟩ = some (.int .i64 f.bm) := F0.out.cell 6
  have f7 : w0.cell? ⟨w.heap.size, 7, none⟩ = some (.int .i64 f.rs) := F0.out.cell 7
  have f8 : w0.cell? ⟨w.heap.size, 8, none⟩ = some (.int .i64 f.gs) := F0.out.cell 8
  have f9 : w0.cell? ⟨w.heap.size, 9, none⟩ = some (.int .i64 f.bs) := F0.out.cell 9
  go_wp2_with fail
  refine (K24.out _).mono ?_
  rintro e w1 ⟨rfl, hb1⟩
  have B1 := hide (B0.out.trans (hb1.mono B0.out.size))
  clear hb1
  go_wp2_with fail
  go_ret3
  exact ⟨rfl, B1.out⟩

set_option maxHeartbeats 1600000 in
set_option maxRecDepth 100000 in
theorem rawOf_short (f : Fmt) (a b p : Int) (k n : Nat) (s : ByteArray) (w : World)
    (hp : a * b = p) (hp0 : 0 ≤ p ∧ p ≤ 16777216) (hn : p * k = n) (hn1 : (n : Int) ≤ 67108864) (hs : s.size < n) (hs2 : s.size ≤ 1099511627776)
    (K24 : Hid (∀ w, Calls Try.prog 24 #[fmtV f, .int .i64 a, .int .i64 b] w fun e w' => e = .returned (.bool true) ∧ Below w.heap.size w w'))
    (K27 : Hid (∀ w, Calls Try.prog 27 #[fmtV f] w fun e w' => e = .returned (.int .i64 k) ∧ Below w.heap.size w w'))
    : Calls Try.prog 26 #[fmtV f, .int .i64 a, .int .i64 b, .string s] w fun e w' => e = .returned (.tuple #[.slice none 0 0, .int .i64 0, .int .i64 2]) ∧ Below w.heap.size w w' := by
  have F0 := hide (Blk.new w 23 #[.int .i64 f.bits, .int .i64 f.depth, .bool f.big, .bool f.tru, .int .i64 f.rm, .int .i64 f.gm, .int .i64 f.bm, .int .i64 f.rs, .int .i64 f.gs, .int .i64 f.bs])
  have B0 := hide ((Below.refl w.heap.size w).alloc (Nat.le_refl _) (.cells #[.int .i64 f.bits, .int .i64 f.depth, .bool f.big, .bool f.tru, .int .i64 f.rm, .int .i64 f.gm, .int .i64 f.bm, .int .i64 f.rs, .int .i64 f.gs, .int .i64 f.bs] 23))
  go_enter Try.func26, Try.ntmps26
  go_upto_region 1 with fail
  generalize w.alloc (.cells #[.int .i64 f.bits, .int .i64 f.depth, .bool f.big, .bool f.tru, .int .i64 f.rm, .int .i64 f.gm, .int .i64 f.bm, .int .i64 f.rs, .int .i64 f.gs, .int .i64 f.bs] 23) = w0 at *
  have f0 : w0.cell? ⟨w.heap.size, 0, none⟩ = some (.int .i64 f.bits) := F0.out.cell 0
  have f1 : w0.cell? ⟨w.heap.size, 1, none⟩ = some (.int .i64 f.depth) := F0.out.cell 1
  have f2 : w0.cell? ⟨w.heap.size, 2, none⟩ = some (.bool f.big) := F0.out.cell 2
  have f3 : w0.cell? ⟨w.heap.size, 3, none⟩ = some (.bool f.tru) := F0.out.cell 3
  have f4 : w0.cell? ⟨w.heap.size, 4, none⟩ = some (.int .i64 f.rm) := F0.out.cell 4
  have f5 : w0.cell? ⟨w.heap.size, 5, none⟩ = some (.int .i64 f.gm) := F0.out.cell 5
  have f6 : w0.cell? ⟨w.heap.size, 6, none⟩ = some (.int .i64 f.bm) := F0.out.cell 6
  have f7 : w0.cell? ⟨w.heap.size, 7, none⟩ = some (.int .i64 f.rs) := F0.out.cell 7
  have f8 : w0.cell? ⟨w.heap.size, 8, none⟩ = some (.int .i64 f.gs) := F0.out.cell 8
  have f9 : w0.cell? ⟨w.heap.size, 9, none⟩ = some (.int .i64 f.bs) := F0.out.cell 9
  go_wp2_with fail
  refine (K24.out _).mono ?_
  rintro e w1 ⟨rfl, hb1⟩
  have F1 := hide (F0.out.below hb1)
  have B1 := hide (B0.out.trans (hb1.mono B0.out.size))
  clear hb1
  go_wp2_with fail
  refine (new_any _ _).mono ?_
  rintro e w2 ⟨rfl, hc2, hb2, hz2'⟩
  have F2 := hide (F1.out.below hb2)
  have B2 := hide (B1.out.trans (hb2.mono B1.out.size))
  have I2 := hide hc2
  have lt1 := F1.out.lt
  clear hc2 hb2
  clear f0 f1 f2 f3 f4 f5 f6 f7 f8 f9
  have f0 : w2.cell? ⟨w.heap.size, 0, none⟩ = some (.int .i64 f.bits) := F2.out.cell 0
  have f1 : w2.cell? ⟨w.heap.size, 1, none⟩ = some (.int .i64 f.depth) := F2.out.cell 1
  have f2 : w2.cell? ⟨w.heap.size, 2, none⟩ = some (.bool f.big) := F2.out.cell 2
  have f3 : w2.cell? ⟨w.heap.size, 3, none⟩ = some (.bool f.tru) := F2.out.cell 3
  have f4 : w2.cell? ⟨w.heap.size, 4, none⟩ = some (.int .i64 f.rm) := F2.out.cell 4
  have f5 : w2.cell? ⟨w.heap.size, 5, none⟩ = some (.int .i64 f.gm) := F2.out.cell 5
  have f6 : w2.cell? ⟨w.heap.size, 6, none⟩ = some (.int .i64 f.bm) := F2.out.cell 6
  have f7 : w2.cell? ⟨w.heap.size, 7, none⟩ = some (.int .i64 f.rs) := F2.out.cell 7
  have f8 : w2.cell? ⟨w.heap.size, 8, none⟩ = some (.int .i64 f.gs) := F2.out.cell 8
  have f9 : w2.cell? ⟨w.heap.size, 9, none⟩ = some (.int .i64 f.bs) := F2.out.cell 9
  go_wp2_with fail
  refine (K27.out _).mono ?_
  rintro e w3 ⟨rfl, hb3⟩
  have F3 := hide (F2.out.below hb3)
  have B3 := hide (B2.out.trans (hb3.mono B2.out.size))
  have I3 := hide (I2.out.keep (hb3.mono (by omega)))
  clear hb3
  go_wp2_with fail
  have he : ((⟨s, 0, 0⟩ : Cu).bytes n).e = 2 := Cu.run_short [n] ⟨s, 0, 0⟩ rfl (by show s.size - 0 < n + 0; omega)
  have n1 : w.heap.size ≠ w1.heap.size := by omega
  refine (bytes_at _ ⟨s, 0, 0⟩ _ n _ _ (by omega) I3.out (hide ⟨by simp, hs2⟩) (hide rfl) (hide rfl)).mono ?_
  rintro e w4 ⟨rfl, hc4, ho4⟩
  have I4 := hide hc4
  have B4 := hide (Below.grown B3.out ho4 B3.out.size (by intro k hk; cases hk; omega))
  clear hc4 ho4
  have HE : Calls Try.prog 75 #[.pointer (some ⟨w1.heap.size, 0, none⟩)] w4 fun en w' => en = .returned (.int .i64 2) ∧ w4 = w' := by
    have := err_any _ _ _ I4.out
    rwa [he] at this
  have HE' := hide HE
  clear HE
  generalize (⟨s, 0, 0⟩ : Cu).out n = S at *
  go_wp2_with fail
  refine HE'.out.mono ?_
  rintro e w5 ⟨rfl, rfl⟩
  go_wp2_with fail
  go_ret3
  exact ⟨rfl, B4.out⟩

end Go.Proofs.Ytodlpofpeoiedaa
