/-
  FormatBack: the law.
-/
import Derived.Test.YtodlpofpeoiedaaAH2
namespace Go.Proofs.Ytodlpofpeoiedaa
open Go.RowKit Go.Sort

set_option maxHeartbeats 1600000 in
set_option maxRecDepth 100000 in
theorem law8_long (f : Fmt) (n : Int) (tail : ByteArray) (w : World) (ht : 60 < tail.size) :
    Calls Try.prog 8 #[.agg #[.int .i64 f.bits, .int .i64 f.depth, .bool f.big, .bool f.tru, .int .i64 f.rm, .int .i64 f.gm, .int .i64 f.bm, .int .i64 f.rs, .int .i64 f.gs, .int .i64 f.bs], .int .i64 n, .string tail] w fun e w' => e = .returned (.bool true) ∧ Below w.heap.size w w' := by
  have ht' : (60 : Int) < tail.size := by omega
  have B0 := hide ((Below.refl w.heap.size w).alloc (Nat.le_refl _) (.cells #[.int .i64 f.bits, .int .i64 f.depth, .bool f.big, .bool f.tru, .int .i64 f.rm, .int .i64 f.gm, .int .i64 f.bm, .int .i64 f.rs, .int .i64 f.gs, .int .i64 f.bs] 23))
  go_enter Try.func8, Try.ntmps8
  go_upto_region 1 with fail
  generalize w.alloc (.cells #[.int .i64 f.bits, .int .i64 f.depth, .bool f.big, .bool f.tru, .int .i64 f.rm, .int .i64 f.gm, .int .i64 f.bm, .int .i64 f.rs, .int .i64 f.gs, .int .i64 f.bs] 23) = w0 at *
  go_wp2_with fail
  refine (works14_any _).mono ?_
  rintro e w1 ⟨rfl, hb1⟩
  have B1 := hide (B0.out.trans (hb1.mono B0.out.size))
  clear hb1
  go_wp2_with fail
  go_ret
  exact ⟨rfl, B1.out⟩

set_option maxHeartbeats 1600000 in
set_option maxRecDepth 100000 in
theorem law8_no (f : Fmt) (n : Int) (tail : ByteArray) (w : World) (ht : tail.size ≤ 60)
    (K17 : Hid (∀ w, Calls Try.prog 17 #[.agg #[.int .i64 f.bits, .int .i64 f.depth, .bool f.big, .bool f.tru, .int .i64 f.rm, .int .i64 f.gm, .int .i64 f.bm, .int .i64 f.rs, .int .i64 f.gs, .int .i64 f.bs]] w fun e w' => e = .returned (.bool false) ∧ Below w.heap.size w w'))
    : Calls Try.prog 8 #[.agg #[.int .i64 f.bits, .int .i64 f.depth, .bool f.big, .bool f.tru, .int .i64 f.rm, .int .i64 f.gm, .int .i64 f.bm, .int .i64 f.rs, .int .i64 f.gs, .int .i64 f.bs], .int .i64 n, .string tail] w fun e w' => e = .returned (.bool true) ∧ Below w.heap.size w w' := by
  have ht' : (tail.size : Int) ≤ 60 := by omega
  have F0 := hide (Blk.new w 23 #[.int .i64 f.bits, .int .i64 f.depth, .bool f.big, .bool f.tru, .int .i64 f.rm, .int .i64 f.gm, .int .i64 f.bm, .int .i64 f.rs, .int .i64 f.gs, .int .i64 f.bs])
  have B0 := hide ((Below.refl w.heap.size w).alloc (Nat.le_refl _) (.cells #[.int .i64 f.bits, .int .i64 f.depth, .bool f.big, .bool f.tru, .int .i64 f.rm, .int .i64 f.gm, .int .i64 f.bm, .int .i64 f.rs, .int .i64 f.gs, .int .i64 f.bs] 23))
  go_enter Try.func8, Try.ntmps8
  go_upto_region 1 with fail
  generalize w.alloc (.cells #[.int .i64 f.bits, .int .i64 f.depth, .bool f.big, .bool f.tru, .int .i64 f.rm, .int .i64 f.gm, .int .i64 f.bm, .int .i64 f.rs, .int .i64 f.gs, .int .i64 f.bs] 23) = w0 at *
  go_wp2_with fail
  refine (works14_any _).mono ?_
  rintro e w1 ⟨rfl, hb1⟩
  have F1 := hide (F0.out.below hb1)
  have B1 := hide (B0.out.trans (hb1.mono B0.out.size))
  clear hb1
  have f0 : w1.cell? ⟨w.heap.size, 0, none⟩ = some (.int .i64 f.bits) := F1.out.cell 0
  have p0 : w1.frozen? ⟨w.heap.size, 0, none⟩ = false := F1.out.fr 0
  have f1 : w1.cell? ⟨w.heap.size, 1, none⟩ = some (.int .i64 f.depth) := F1.out.cell 1
  have p1 : w1.frozen? ⟨w.heap.size, 1, none⟩ = false := F1.out.fr 1
  have f2 : w1.cell? ⟨w.heap.size, 2, none⟩ = some (.bool f.big) := F1.out.cell 2
  have p2 : w1.frozen? ⟨w.heap.size, 2, none⟩ = false := F1.out.fr 2
  have f3 : w1.cell? ⟨w.heap.size, 3, none⟩ = some (.bool f.tru) := F1.out.cell 3
  have p3 : w1.frozen? ⟨w.heap.size, 3, none⟩ = false := F1.out.fr 3
  have f4 : w1.cell? ⟨w.heap.size, 4, none⟩ = some (.int .i64 f.rm) := F1.out.cell 4
  have p4 : w1.frozen? ⟨w.heap.size, 4, none⟩ = false := F1.out.fr 4
  have f5 : w1.cell? ⟨w.heap.size, 5, none⟩ = some (.int .i64 f.gm) := F1.out.cell 5
  have p5 : w1.frozen? ⟨w.heap.size, 5, none⟩ = false := F1.out.fr 5
  have f6 : w1.cell? ⟨w.heap.size, 6, none⟩ = some (.int .i64 f.bm) := F1.out.cell 6
  have p6 : w1.frozen? ⟨w.heap.size, 6, none⟩ = false := F1.out.fr 6
  have f7 : w1.cell? ⟨w.heap.size, 7, none⟩ = some (.int .i64 f.rs) := F1.out.cell 7
  have p7 : w1.frozen? ⟨w.heap.size, 7, none⟩ = false := F1.out.fr 7
  have f8 : w1.cell? ⟨w.heap.size, 8, none⟩ = some (.int .i64 f.gs) := F1.out.cell 8
  have p8 : w1.frozen? ⟨w.heap.size, 8, none⟩ = false := F1.out.fr 8
  have f9 : w1.cell? ⟨w.heap.size, 9, none⟩ = some (.int .i64 f.bs) := F1.out.cell 9
  have p9 : w1.frozen? ⟨w.heap.size, 9, none⟩ = false := F1.out.fr 9
  go_wp2_with fail
  refine (K17.out _).mono ?_
  rintro e w2 ⟨rfl, hb2⟩
  have B2 := hide (B1.out.trans (hb2.mono B1.out.size))
  clear hb2
  go_wp2_with fail
  go_ret
  exact ⟨rfl, B2.out⟩

/-- miradorlaw13.FormatBack. -/
theorem law8_any (f : Fmt) (n : Int) (tail : ByteArray) (w : World) (hf : f.fit) :
    Calls Try.prog 8 #[fmtV f, .int .i64 n, .string tail] w fun e w' => e = .returned (.bool true) ∧ Below w.heap.size w w' := by
  by_cases ht : tail.size ≤ 60
  · have K17 := fun w => valid_fit f w hf
    cases h : validB f with
    | false =>
      rw [h] at K17
      exact law8_no f n tail w ht K17
    | true =>
      rw [h] at K17
      obtain ⟨pf, pe, pz⟩ := parse_back f tail h
      have K15 : ∀ w, Calls Try.prog 15 #[.string (bytesF f ++ tail)] w fun e w' => e = .returned (.tuple #[fmtV f, .int .i64 0]) ∧ Below w.heap.size w w' := fun w => by
        have := parse_any (bytesF f ++ tail) w (by rw [ByteArray.size_append, pz]; omega)
        rw [pf, pe] at this
        exact this
      obtain ⟨hb, _⟩ := valid_parts h
      obtain ⟨hs, hs2⟩ := size_valid h
      have hp := pow256 hs hb
      have G := get_put f (sizeN f) n tail h
      have K41 : ∀ w, Calls Try.prog 41 #[fmtV f, .string (putV f n ++ tail)] w fun e w' => e = .returned (.tuple #[.int .i64 (n % 2 ^ f.bits.toNat), .int .i64 0]) ∧ Below w.heap.size w w' := fun w => by
        have := get41_any f (putV f n ++ tail) w hf
        rw [putV_eq, G.1, G.2, hp] at this
        rw [putV_eq]
        exact this
      have G2 := get_put f (compS f) (valV f n % 2 ^ f.bits.toNat / 2 ^ compH f) tail h
      obtain ⟨cb, clt⟩ := comp_back h n
      have K42 : ∀ w, Calls Try.prog 42 #[fmtV f, .string (cputV f (valV f n) ++ tail)] w fun e w' => e = .returned (.tuple #[.int .i64 (valV f n), .int .i64 0]) ∧ Below w.heap.size w w' := fun w => by
        have := cget_any f (cputV f (valV f n) ++ tail) w hf h
        unfold cputV at this
        rw [G2.1, G2.2, cb] at this
        exact this
      have c0 := (val_in h n).1
      have zA : (putV f n).size = sizeN f := by rw [putV_eq, ordB_len]
      have zD : (cputV f (valV f n)).size = compS f := ordB_len _ _ _
      have key : ∀ (P M : Int), P = 2 ^ f.bits.toNat → (∀ w, (Op.shift .shl .i64 1 .i64 f.bits).run Try.prog w = .ok (.int .i64 P) w) → IntKind.i64.wrap (P - 1) = M → bits .and .i64 n M = n % 2 ^ f.bits.toNat →
          Calls Try.prog 8 #[fmtV f, .int .i64 n, .string tail] w fun e w' => e = .returned (.bool true) ∧ Below w.heap.size w w' := fun P M hP hsh hM hv =>
        law8_walk f n _ (valV f n) P M (sizeN f) (compS f) (compH f) tail (bytesF f) (putV f n) (cputV f (valV f n)) w pz ht zA (size_le f) zD (compS_le f) hsh hM hv c0 (by rw [hP]; exact clt)
          K17 (fun w => fbytes_any f w) K15 (fun w => put36_any f n w hf) K41 (fun w => value_any f n w h) (fun w => cput_any f (valV f n) w hf h) K42 (fun w => compact_any f w hf h) (fun w => size_any f w hf)
      rcases hb with e | e | e
      · exact key 256 255 (by rw [e]; rfl) (fun w => by rw [e]; kernel_rfl) (by kernel_rfl) (by rw [e]; exact and_pow2 n (k := 8) (.inl rfl))
      · exact key 65536 65535 (by rw [e]; rfl) (fun w => by rw [e]; kernel_rfl) (by kernel_rfl) (by rw [e]; exact and_pow2 n (k := 16) (.inr (.inl rfl)))
      · exact key 4294967296 4294967295 (by rw [e]; rfl) (fun w => by rw [e]; kernel_rfl) (by kernel_rfl) (by rw [e]; exact and_pow2 n (k := 32) (.inr (.inr rfl)))
  · exact law8_long f n tail w (by omega)

end Go.Proofs.Ytodlpofpeoiedaa
