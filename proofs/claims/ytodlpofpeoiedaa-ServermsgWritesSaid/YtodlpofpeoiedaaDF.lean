/-
  What the document writes: kinds of security, a start, a head, a message, how security came out.
-/
import Derived.Test.YtodlpofpeoiedaaDE
namespace Go.Proofs.Ytodlpofpeoiedaa
open Go.RowKit Go.Sort

set_option maxHeartbeats 3200000 in
set_option maxRecDepth 100000 in
theorem rput54_walk (x y ww hh en : Int) (T : ByteArray) (q : Bool) (w : World) (hacc : (⟨#[]⟩ : ByteArray) ++ putS 2 x ++ putS 2 y ++ putS 2 ww ++ putS 2 hh = T) (hok : ((((true && (putE 2 x == 0)) && (putE 2 y == 0)) && (putE 2 ww == 0)) && (putE 2 hh == 0)) = q) (hz : T.size ≤ 100) :
    Calls Try.prog 54 #[.agg #[.int .i64 x, .int .i64 y, .int .i64 ww, .int .i64 hh], .int .i64 en] w fun e w' => e = .returned (.tuple #[.string (rS (q && !(signS en).toList.isEmpty) (T ++ signS en)), .int .i64 (rE (q && !(signS en).toList.isEmpty))]) ∧ Below w.heap.size w w' := by
  have F := hide (Blk.new w 60 #[.int .i64 x, .int .i64 y, .int .i64 ww, .int .i64 hh])
  have B := hide ((Below.refl w.heap.size w).alloc (Nat.le_refl _) (.cells #[.int .i64 x, .int .i64 y, .int .i64 ww, .int .i64 hh] 60))
  go_enter Try.func54, Try.ntmps54
  go_upto_region 1 with fail
  generalize w.alloc (.cells #[.int .i64 x, .int .i64 y, .int .i64 ww, .int .i64 hh] 60) = v at *
  have R0 := hide (show IsR v.heap.size ⟨#[]⟩ true (v.alloc (.cells #[.string ⟨#[]⟩, .bool true] 134)) from Blk.new v 134 #[.string ⟨#[]⟩, .bool true])
  have hv0 := B.out.size
  have KB := hide (B.out.alloc hv0 (.cells #[.string ⟨#[]⟩, .bool true] 134))
  have O0 := hide (only_of (b := v.heap.size) (Below.refl _ (v.alloc (.cells #[.string ⟨#[]⟩, .bool true] 134))))
  have hne : w.heap.size ≠ v.heap.size := by have := F.out.lt; omega
  have F0 := hide (F.out.alloc (.cells #[.string ⟨#[]⟩, .bool true] 134))
  go_upto_region 2 with fail
  generalize v.alloc (.cells #[.string ⟨#[]⟩, .bool true] 134) = w0 at *
  have hz0 : Hid ((⟨#[]⟩ : ByteArray).size ≤ 1099511627776) := hide (by decide)
  have f0 : w0.cell? ⟨w.heap.size, 0, none⟩ = some (.int .i64 x) := F0.out.cell 0
  go_wp2_with fail
  refine (wint_any v.heap.size 2 (by simp) x _ _ _ R0.out hz0.out).mono ?_
  rintro e w1 ⟨rfl, hr, ho⟩
  have R1 := hide hr
  have O1 := hide (only_trans O0.out ho)
  have F1 := hide (F0.out.only ho hne)
  clear hr ho
  clear f0
  have hz1 : Hid (((⟨#[]⟩ : ByteArray) ++ putS 2 x).size ≤ 1099511627776) := hide (by simp only [ByteArray.size_append]; have e0 : (⟨#[]⟩ : ByteArray).size = 0 := rfl; have := putS_size 2 x; omega)
  have f1 : w1.cell? ⟨w.heap.size, 1, none⟩ = some (.int .i64 y) := F1.out.cell 1
  go_wp2_with fail
  refine (wint_any v.heap.size 2 (by simp) y _ _ _ R1.out hz1.out).mono ?_
  rintro e w2 ⟨rfl, hr, ho⟩
  have R2 := hide hr
  have O2 := hide (only_trans O1.out ho)
  have F2 := hide (F1.out.only ho hne)
  clear hr ho
  clear f1
  have hz2 : Hid (((⟨#[]⟩ : ByteArray) ++ putS 2 x ++ putS 2 y).size ≤ 1099511627776) := hide (by simp only [ByteArray.size_append]; have e0 : (⟨#[]⟩ : ByteArray).size = 0 := rfl; have := putS_size 2 x; have := putS_size 2 y; omega)
  have f2 : w2.cell? ⟨w.heap.size, 2, none⟩ = some (.int .i64 ww) := F2.out.cell 2
  go_wp2_with fail
  refine (wint_any v.heap.size 2 (by simp) ww _ _ _ R2.out hz2.out).mono ?_
  rintro e w3 ⟨rfl, hr, ho⟩
  have R3 := hide hr
  have O3 := hide (only_trans O2.out ho)
  have F3 := hide (F2.out.only ho hne)
  clear hr ho
  clear f2
  have hz3 : Hid (((⟨#[]⟩ : ByteArray) ++ putS 2 x ++ putS 2 y ++ putS 2 ww).size ≤ 1099511627776) := hide (by simp only [ByteArray.size_append]; have e0 : (⟨#[]⟩ : ByteArray).size = 0 := rfl; have := putS_size 2 x; have := putS_size 2 y; have := putS_size 2 ww; omega)
  have f3 : w3.cell? ⟨w.heap.size, 3, none⟩ = some (.int .i64 hh) := F3.out.cell 3
  go_wp2_with fail
  refine (wint_any v.heap.size 2 (by simp) hh _ _ _ R3.out hz3.out).mono ?_
  rintro e w4 ⟨rfl, hr, ho⟩
  have R4 := hide hr
  have O4 := hide (only_trans O3.out ho)
  have F4 := hide (F3.out.only ho hne)
  clear hr ho
  clear f3
  go_wp2_with fail
  refine (rsigned_any en _).mono ?_
  rintro e w5 ⟨rfl, hb⟩
  have R5 := hide (Blk.below R4.out hb)
  have O5 := hide (only_trans O4.out (only_of hb))
  have F5 := hide (F4.out.below hb)
  clear hb
  have hq : Hid (((((true && (putE 2 x == 0)) && (putE 2 y == 0)) && (putE 2 ww == 0)) && (putE 2 hh == 0)) = q) := hide hok
  rw [hq.out] at R5
  have hT : Hid ((⟨#[]⟩ : ByteArray) ++ putS 2 x ++ putS 2 y ++ putS 2 ww ++ putS 2 hh = T) := hide hacc
  rw [hT.out] at R5
  have c0 : w5.cell? ⟨v.heap.size, 0, none⟩ = some (.string T) := Blk.cell R5.out 0
  have p0 : w5.frozen? ⟨v.heap.size, 0, none⟩ = false := Blk.fr R5.out 0
  have c1 : w5.cell? ⟨v.heap.size, 1, none⟩ = some (.bool q) := Blk.cell R5.out 1
  have p1 : w5.frozen? ⟨v.heap.size, 1, none⟩ = false := Blk.fr R5.out 1
  have R6 := hide (Blk.set (Blk.set (R5.out) 0 (.string (T ++ signS en))) 1 (.bool (q && !(signS en).toList.isEmpty)))
  have O6 := hide (only_trans (only_trans (O5.out) (only_set v.heap.size 0 _ (.string (T ++ signS en)))) (only_set v.heap.size 1 _ (.bool (q && !(signS en).toList.isEmpty))))
  have F6 := hide (((F5.out).other (p := ⟨v.heap.size, 0, none⟩) hne (.string (T ++ signS en))).other (p := ⟨v.heap.size, 1, none⟩) hne (.bool (q && !(signS en).toList.isEmpty)))
  have hc : (9223372036854775807 < T.size + (signS en).size) = False := eq_false (by have := signS_size en; omega)
  cases q with
  | true =>
    simp only [Bool.true_and] at R6 O6 F6
    go_wp2_with fail
    refine (done102_any v.heap.size _ _ _ R6.out).mono ?_
    rintro e w7 ⟨rfl, rfl⟩
    go_wp2_with fail
    go_ret2
    exact ⟨rfl, KB.out.trans (only_below O6.out KB.out.size hv0)⟩
  | false =>
    simp only [Bool.false_and] at R6 O6 F6
    go_wp2_with fail
    refine (done102_any v.heap.size _ _ _ R6.out).mono ?_
    rintro e w7 ⟨rfl, rfl⟩
    go_wp2_with fail
    go_ret2
    exact ⟨rfl, KB.out.trans (only_below O6.out KB.out.size hv0)⟩

set_option maxHeartbeats 3200000 in
set_option maxRecDepth 100000 in
theorem rkinds50_walk (a : Option Addr) (n c : Nat) (xs : List Int) (ok : Bool) (T : Nat → ByteArray) (q : Nat → Bool) (w : World) (hI : Hid (IntsIn w.heap.size w a n xs)) (hn : n ≤ 300) (h2 : decide ((1 : Int) ≤ n) = ok)
    (hT0 : Hid ((⟨#[]⟩ : ByteArray) ++ putS 1 n = T 0)) (hTs : Hid (∀ j, j < n → T (j + 1) = T j ++ putS 1 (xs[j]?.getD 0))) (hTz : Hid (∀ j, j ≤ n → (T j).size ≤ 1000))
    (hq0 : Hid ((ok && (putE 1 n == 0)) = q 0)) (hqs : Hid (∀ j, j < n → q (j + 1) = (q j && (putE 1 (xs[j]?.getD 0) == 0)))) :
    Calls Try.prog 50 #[.slice a n c] w fun e w' => e = .returned (.tuple #[.string (rS (q n) (T n)), .int .i64 (rE (q n))]) ∧ Below w.heap.size w w' := by
  go_enter Try.func50, Try.ntmps50
  go_upto_region 1 with fail
  obtain ⟨v, hv⟩ : ∃ v : World, v = w := ⟨_, rfl⟩
  have B : Hid (Below w.heap.size w v) := hide (by rw [hv]; exact Below.refl _ _)
  rw [← hv]
  clear hv
  have R0 := hide (show IsR v.heap.size ⟨#[]⟩ ok (v.alloc (.cells #[.string ⟨#[]⟩, .bool ok] 134)) from Blk.new v 134 #[.string ⟨#[]⟩, .bool ok])
  have hv0 := B.out.size
  have KB := hide (B.out.alloc hv0 (.cells #[.string ⟨#[]⟩, .bool ok] 134))
  have O0 := hide (only_of (b := v.heap.size) (Below.refl _ (v.alloc (.cells #[.string ⟨#[]⟩, .bool ok] 134))))
  go_upto_region 2 with fail
  generalize v.alloc (.cells #[.string ⟨#[]⟩, .bool ok] 134) = w0 at *
  go_wp2_with fail
  refine (wint_any v.heap.size 1 (by simp) n _ _ _ R0.out (by decide)).mono ?_
  rintro e w1 ⟨rfl, hr, ho⟩
  have R1 := hide hr
  have O1 := hide (only_trans O0.out ho)
  clear hr ho
  rw [hT0.out, hq0.out] at R1
  go_wp2_with fail
  go_loopw [5] (fun i wr => ∃ j : Nat, j ≤ n ∧ i = .int .i64 j ∧ Hid (IsR v.heap.size (T j) (q j) wr) ∧ Hid (Only v.heap.size w0 wr)) (fun i _ => n - (intOf i).toNat)
  case atStart => exact ⟨0, by omega, rfl, R1, O1⟩
  case round =>
    obtain ⟨j, hj, rfl, hR, hO⟩ := hrel
    by_cases hlt : j < n
    · obtain ⟨b1, o1, rfl, hb1, hx⟩ := hI.out.2.resolve_left (by omega)
      have hB := KB.out.trans (only_below hO.out KB.out.size hv0)
      have hx0 := (hB.cell (p := ⟨b1, o1 + j, none⟩) hb1).trans (hx j hlt)
      have eT := hide (hTs.out j hlt)
      have eq := hide (hqs.out j hlt)
      have hz := hTz.out j (by omega)
      clear hx hb1 hB
      generalize xs[j]?.getD 0 = x at *
      go_wp2_with fail
      refine (wint_any v.heap.size 1 (by simp) x _ _ _ hR.out (by omega)).mono ?_
      rintro e w3 ⟨rfl, hr, ho⟩
      have R3 := hide hr
      have O3 := hide (only_trans hO.out ho)
      clear hr ho
      go_wp2_with fail
      go_roundw
      case rel => exact ⟨j + 1, by omega, by go_num, hide (by rw [eT.out, eq.out]; exact R3.out), O3⟩
      case measure => simp [intOf]; omega
    · obtain rfl : j = n := by omega
      go_wp2_with fail
      refine (done102_any v.heap.size _ _ _ hR.out).mono ?_
      rintro e w7 ⟨rfl, rfl⟩
      go_wp2_with fail
      go_ret2
      exact ⟨rfl, KB.out.trans (only_below hO.out KB.out.size hv0)⟩

set_option maxHeartbeats 3200000 in
set_option maxRecDepth 100000 in
theorem rbytes52_no (x y : Int) (f : Fmt) (nm : ByteArray) (w : World)
    (K18 : Hid (∀ w, Calls Try.prog 18 #[fmtV f] w fun e w' => e = .returned (.bool false) ∧ Below w.heap.size w w'))
    : Calls Try.prog 52 #[.agg (staC x y f nm)] w fun e w' => e = .returned (.tuple #[.string ⟨#[]⟩, .int .i64 130]) ∧ Below w.heap.size w w' := by
  have F := hide (Blk.new w 71 #[.int .i64 x, .int .i64 y, .int .i64 f.bits, .int .i64 f.depth, .bool f.big, .bool f.tru, .int .i64 f.rm, .int .i64 f.gm, .int .i64 f.bm, .int .i64 f.rs, .int .i64 f.gs, .int .i64 f.bs, .string nm])
  have B := hide ((Below.refl w.heap.size w).alloc (Nat.le_refl _) (.cells #[.int .i64 x, .int .i64 y, .int .i64 f.bits, .int .i64 f.depth, .bool f.big, .bool f.tru, .int .i64 f.rm, .int .i64 f.gm, .int .i64 f.bm, .int .i64 f.rs, .int .i64 f.gs, .int .i64 f.bs, .string nm] 71))
  go_enter Try.func52, Try.ntmps52
  go_upto_region 1 with fail
  generalize w.alloc (.cells #[.int .i64 x, .int .i64 y, .int .i64 f.bits, .int .i64 f.depth, .bool f.big, .bool f.tru, .int .i64 f.rm, .int .i64 f.gm, .int .i64 f.bm, .int .i64 f.rs, .int .i64 f.gs, .int .i64 f.bs, .string nm] 71) = v at *
  have g2 : v.cell? ⟨w.heap.size, 2, none⟩ = some (.int .i64 f.bits) := F.out.cell 2
  have g3 : v.cell? ⟨w.heap.size, 3, none⟩ = some (.int .i64 f.depth) := F.out.cell 3
  have g4 : v.cell? ⟨w.heap.size, 4, none⟩ = some (.bool f.big) := F.out.cell 4
  have g5 : v.cell? ⟨w.heap.size, 5, none⟩ = some (.bool f.tru) := F.out.cell 5
  have g6 : v.cell? ⟨w.heap.size, 6, none⟩ = some (.int .i64 f.rm) := F.out.cell 6
  have g7 : v.cell? ⟨w.heap.size, 7, none⟩ = some (.int .i64 f.gm) := F.out.cell 7
  have g8 : v.cell? ⟨w.heap.size, 8, none⟩ = some (.int .i64 f.bm) := F.out.cell 8
  have g9 : v.cell? ⟨w.heap.size, 9, none⟩ = some (.int .i64 f.rs) := F.out.cell 9
  have g10 : v.cell? ⟨w.heap.size, 10, none⟩ = some (.int .i64 f.gs) := F.out.cell 10
  have g11 : v.cell? ⟨w.heap.size, 11, none⟩ = some (.int .i64 f.bs) := F.out.cell 11
  go_wp2_with fail
  refine (K18.out _).mono ?_
  rintro e v2 ⟨rfl, hb⟩
  have B2 := hide (B.out.trans (hb.mono B.out.size))
  clear hb g2 g3 g4 g5 g6 g7 g8 g9 g10 g11 B
  go_wp2_with fail
  go_ret2
  exact ⟨rfl, B2.out⟩

set_option maxHeartbeats 3200000 in
set_option maxRecDepth 100000 in
theorem rsay_update (fl : Bool) (n a b c d : Int) (f : Fmt) (en : Value) (t : ByteArray) (w : World)  :
    Calls Try.prog 56 #[.agg (msgC 6 fl n a b c d f en t)] w fun e w' => e = .returned (.tuple #[.string (rS ((true && (putE 2 n == 0))) ((⟨#[]⟩ : ByteArray) ++ zeroB 2 ++ putS 2 n)), .int .i64 (rE ((true && (putE 2 n == 0))))]) ∧ Below w.heap.size w w' := by
  have F := hide (Blk.new w 65 #[.int .i64 6, .bool fl, .int .i64 n, .int .i64 a, .int .i64 b, .int .i64 c, .int .i64 d, .int .i64 f.bits, .int .i64 f.depth, .bool f.big, .bool f.tru, .int .i64 f.rm, .int .i64 f.gm, .int .i64 f.bm, .int .i64 f.rs, .int .i64 f.gs, .int .i64 f.bs, en, .string t])
  have B := hide ((Below.refl w.heap.size w).alloc (Nat.le_refl _) (.cells #[.int .i64 6, .bool fl, .int .i64 n, .int .i64 a, .int .i64 b, .int .i64 c, .int .i64 d, .int .i64 f.bits, .int .i64 f.depth, .bool f.big, .bool f.tru, .int .i64 f.rm, .int .i64 f.gm, .int .i64 f.bm, .int .i64 f.rs, .int .i64 f.gs, .int .i64 f.bs, en, .string t] 65))
  go_enter Try.func56, Try.ntmps56
  go_upto_region 1 with fail
  generalize w.alloc (.cells #[.int .i64 6, .bool fl, .int .i64 n, .int .i64 a, .int .i64 b, .int .i64 c, .int .i64 d, .int .i64 f.bits, .int .i64 f.depth, .bool f.big, .bool f.tru, .int .i64 f.rm, .int .i64 f.gm, .int .i64 f.bm, .int .i64 f.rs, .int .i64 f.gs, .int .i64 f.bs, en, .string t] 65) = v at *
  have R0 := hide (show IsR v.heap.size ⟨#[]⟩ true (v.alloc (.cells #[.string ⟨#[]⟩, .bool true] 134)) from Blk.new v 134 #[.string ⟨#[]⟩, .bool true])
  have hv0 := B.out.size
  have KB := hide (B.out.alloc hv0 (.cells #[.string ⟨#[]⟩, .bool true] 134))
  have O0 := hide (only_of (b := v.heap.size) (Below.refl _ (v.alloc (.cells #[.string ⟨#[]⟩, .bool true] 134))))
  have hne : w.heap.size ≠ v.heap.size := by have := F.out.lt; omega
  have F0 := hide (F.out.alloc (.cells #[.string ⟨#[]⟩, .bool true] 134))
  go_upto_region 2 with fail
  generalize v.alloc (.cells #[.string ⟨#[]⟩, .bool true] 134) = w0 at *
  have f0 : w0.cell? ⟨w.heap.size, 0, none⟩ = some (.int .i64 6) := F0.out.cell 0
  go_wp2_with fail
  refine (wpad_any v.heap.size 2 _ _ _ R0 (by decide) (by decide)).mono ?_
  rintro e w1 ⟨rfl, hr, ho⟩
  have R1 := hide hr
  have O1 := hide (only_trans O0.out ho)
  have F1 := hide (F0.out.only ho hne)
  clear hr ho
  clear f0
  have f2 : w1.cell? ⟨w.heap.size, 2, none⟩ = some (.int .i64 n) := F1.out.cell 2
  go_wp2_with fail
  refine (wint_any v.heap.size 2 (by simp) n _ _ _ R1.out (by decide)).mono ?_
  rintro e w2 ⟨rfl, hr, ho⟩
  have R2 := hide hr
  have O2 := hide (only_trans O1.out ho)
  have F2 := hide (F1.out.only ho hne)
  clear hr ho
  clear f2
  go_wp2_with fail
  refine (done102_any v.heap.size _ _ _ R2.out).mono ?_
  rintro e w3 ⟨rfl, rfl⟩
  go_wp2_with fail
  go_ret2
  exact ⟨rfl, KB.out.trans (only_below O2.out KB.out.size hv0)⟩

set_option maxHeartbeats 3200000 in
set_option maxRecDepth 100000 in
theorem rsay_bell (fl : Bool) (n a b c d : Int) (f : Fmt) (en : Value) (t : ByteArray) (w : World)  :
    Calls Try.prog 56 #[.agg (msgC 7 fl n a b c d f en t)] w fun e w' => e = .returned (.tuple #[.string (rS (true && (putE 1 2 == 0)) ((⟨#[]⟩ : ByteArray) ++ putS 1 2)), .int .i64 (rE (true && (putE 1 2 == 0)))]) ∧ Below w.heap.size w w' := by
  have F := hide (Blk.new w 65 #[.int .i64 7, .bool fl, .int .i64 n, .int .i64 a, .int .i64 b, .int .i64 c, .int .i64 d, .int .i64 f.bits, .int .i64 f.depth, .bool f.big, .bool f.tru, .int .i64 f.rm, .int .i64 f.gm, .int .i64 f.bm, .int .i64 f.rs, .int .i64 f.gs, .int .i64 f.bs, en, .string t])
  have B := hide ((Below.refl w.heap.size w).alloc (Nat.le_refl _) (.cells #[.int .i64 7, .bool fl, .int .i64 n, .int .i64 a, .int .i64 b, .int .i64 c, .int .i64 d, .int .i64 f.bits, .int .i64 f.depth, .bool f.big, .bool f.tru, .int .i64 f.rm, .int .i64 f.gm, .int .i64 f.bm, .int .i64 f.rs, .int .i64 f.gs, .int .i64 f.bs, en, .string t] 65))
  go_enter Try.func56, Try.ntmps56
  go_upto_region 1 with fail
  generalize w.alloc (.cells #[.int .i64 7, .bool fl, .int .i64 n, .int .i64 a, .int .i64 b, .int .i64 c, .int .i64 d, .int .i64 f.bits, .int .i64 f.depth, .bool f.big, .bool f.tru, .int .i64 f.rm, .int .i64 f.gm, .int .i64 f.bm, .int .i64 f.rs, .int .i64 f.gs, .int .i64 f.bs, en, .string t] 65) = v at *
  have R0 := hide (show IsR v.heap.size ⟨#[]⟩ true (v.alloc (.cells #[.string ⟨#[]⟩, .bool true] 134)) from Blk.new v 134 #[.string ⟨#[]⟩, .bool true])
  have hv0 := B.out.size
  have KB := hide (B.out.alloc hv0 (.cells #[.string ⟨#[]⟩, .bool true] 134))
  have O0 := hide (only_of (b := v.heap.size) (Below.refl _ (v.alloc (.cells #[.string ⟨#[]⟩, .bool true] 134))))
  have hne : w.heap.size ≠ v.heap.size := by have := F.out.lt; omega
  have F0 := hide (F.out.alloc (.cells #[.string ⟨#[]⟩, .bool true] 134))
  go_upto_region 2 with fail
  generalize v.alloc (.cells #[.string ⟨#[]⟩, .bool true] 134) = w0 at *
  have f0 : w0.cell? ⟨w.heap.size, 0, none⟩ = some (.int .i64 7) := F0.out.cell 0
  go_wp2_with fail
  refine (wint_any v.heap.size 1 (by simp) 2 _ _ _ R0.out (by decide)).mono ?_
  rintro e w1 ⟨rfl, hr, ho⟩
  have R1 := hide hr
  have O1 := hide (only_trans O0.out ho)
  have F1 := hide (F0.out.only ho hne)
  clear hr ho
  clear f0
  go_wp2_with fail
  refine (done102_any v.heap.size _ _ _ R1.out).mono ?_
  rintro e w2 ⟨rfl, rfl⟩
  go_wp2_with fail
  go_ret2
  exact ⟨rfl, KB.out.trans (only_below O1.out KB.out.size hv0)⟩

set_option maxHeartbeats 3200000 in
set_option maxRecDepth 100000 in
theorem rsay_cut (fl : Bool) (n a b c d : Int) (f : Fmt) (en : Value) (t : ByteArray) (w : World) (ht : t.size ≤ 109951162777) :
    Calls Try.prog 56 #[.agg (msgC 5 fl n a b c d f en t)] w fun e w' => e = .returned (.tuple #[.string (rS (true && (putE 1 3 == 0) && (putE 4 t.size == 0) && decide ((t.size : Int) ≤ 4096)) ((⟨#[]⟩ : ByteArray) ++ putS 1 3 ++ zeroB 3 ++ putS 4 t.size ++ t)), .int .i64 (rE (true && (putE 1 3 == 0) && (putE 4 t.size == 0) && decide ((t.size : Int) ≤ 4096)))]) ∧ Below w.heap.size w w' := by
  have F := hide (Blk.new w 65 #[.int .i64 5, .bool fl, .int .i64 n, .int .i64 a, .int .i64 b, .int .i64 c, .int .i64 d, .int .i64 f.bits, .int .i64 f.depth, .bool f.big, .bool f.tru, .int .i64 f.rm, .int .i64 f.gm, .int .i64 f.bm, .int .i64 f.rs, .int .i64 f.gs, .int .i64 f.bs, en, .string t])
  have B := hide ((Below.refl w.heap.size w).alloc (Nat.le_refl _) (.cells #[.int .i64 5, .bool fl, .int .i64 n, .int .i64 a, .int .i64 b, .int .i64 c, .int .i64 d, .int .i64 f.bits, .int .i64 f.depth, .bool f.big, .bool f.tru, .int .i64 f.rm, .int .i64 f.gm, .int .i64 f.bm, .int .i64 f.rs, .int .i64 f.gs, .int .i64 f.bs, en, .string t] 65))
  go_enter Try.func56, Try.ntmps56
  go_upto_region 1 with fail
  generalize w.alloc (.cells #[.int .i64 5, .bool fl, .int .i64 n, .int .i64 a, .int .i64 b, .int .i64 c, .int .i64 d, .int .i64 f.bits, .int .i64 f.depth, .bool f.big, .bool f.tru, .int .i64 f.rm, .int .i64 f.gm, .int .i64 f.bm, .int .i64 f.rs, .int .i64 f.gs, .int .i64 f.bs, en, .string t] 65) = v at *
  have R0 := hide (show IsR v.heap.size ⟨#[]⟩ true (v.alloc (.cells #[.string ⟨#[]⟩, .bool true] 134)) from Blk.new v 134 #[.string ⟨#[]⟩, .bool true])
  have hv0 := B.out.size
  have KB := hide (B.out.alloc hv0 (.cells #[.string ⟨#[]⟩, .bool true] 134))
  have O0 := hide (only_of (b := v.heap.size) (Below.refl _ (v.alloc (.cells #[.string ⟨#[]⟩, .bool true] 134))))
  have hne : w.heap.size ≠ v.heap.size := by have := F.out.lt; omega
  have F0 := hide (F.out.alloc (.cells #[.string ⟨#[]⟩, .bool true] 134))
  go_upto_region 2 with fail
  generalize v.alloc (.cells #[.string ⟨#[]⟩, .bool true] 134) = w0 at *
  have f0 : w0.cell? ⟨w.heap.size, 0, none⟩ = some (.int .i64 5) := F0.out.cell 0
  go_wp2_with fail
  refine (wint_any v.heap.size 1 (by simp) 3 _ _ _ R0.out (by decide)).mono ?_
  rintro e w1 ⟨rfl, hr, ho⟩
  have R1 := hide hr
  have O1 := hide (only_trans O0.out ho)
  have F1 := hide (F0.out.only ho hne)
  clear hr ho
  clear f0
  have hz1 : Hid (((⟨#[]⟩ : ByteArray) ++ putS 1 3).size ≤ 1099511627776) := hide (by decide)
  go_wp2_with fail
  refine (wpad_any v.heap.size 3 _ _ _ R1 (by decide) hz1.out).mono ?_
  rintro e w2 ⟨rfl, hr, ho⟩
  have R2 := hide hr
  have O2 := hide (only_trans O1.out ho)
  have F2 := hide (F1.out.only ho hne)
  clear hr ho
  have hz2 : Hid (((⟨#[]⟩ : ByteArray) ++ putS 1 3 ++ zeroB 3).size ≤ 109951162777) := hide (by decide)
  have f18 : w2.cell? ⟨w.heap.size, 18, none⟩ = some (.string t) := F2.out.cell 18
  go_wp2_with fail
  refine (long104_any v.heap.size t _ _ _ R2 hz2.out ht).mono ?_
  rintro e w3 ⟨rfl, hr, ho⟩
  have R3 := hide hr
  have O3 := hide (only_trans O2.out ho)
  have F3 := hide (F2.out.only ho hne)
  clear hr ho
  clear f18
  go_wp2_with fail
  refine (done102_any v.heap.size _ _ _ R3.out).mono ?_
  rintro e w4 ⟨rfl, rfl⟩
  go_wp2_with fail
  go_ret2
  exact ⟨rfl, KB.out.trans (only_below O3.out KB.out.size hv0)⟩

set_option maxHeartbeats 3200000 in
set_option maxRecDepth 100000 in
theorem rsay_none (kd : Int) (fl : Bool) (n a b c d : Int) (f : Fmt) (en : Value) (t : ByteArray) (w : World) (h6 : (kd == 6) = false) (h7 : (kd == 7) = false) (h5 : (kd == 5) = false) :
    Calls Try.prog 56 #[.agg (msgC kd fl n a b c d f en t)] w fun e w' => e = .returned (.tuple #[.string (rS (false) (⟨#[]⟩)), .int .i64 (rE (false))]) ∧ Below w.heap.size w w' := by
  have F := hide (Blk.new w 65 #[.int .i64 kd, .bool fl, .int .i64 n, .int .i64 a, .int .i64 b, .int .i64 c, .int .i64 d, .int .i64 f.bits, .int .i64 f.depth, .bool f.big, .bool f.tru, .int .i64 f.rm, .int .i64 f.gm, .int .i64 f.bm, .int .i64 f.rs, .int .i64 f.gs, .int .i64 f.bs, en, .string t])
  have B := hide ((Below.refl w.heap.size w).alloc (Nat.le_refl _) (.cells #[.int .i64 kd, .bool fl, .int .i64 n, .int .i64 a, .int .i64 b, .int .i64 c, .int .i64 d, .int .i64 f.bits, .int .i64 f.depth, .bool f.big, .bool f.tru, .int .i64 f.rm, .int .i64 f.gm, .int .i64 f.bm, .int .i64 f.rs, .int .i64 f.gs, .int .i64 f.bs, en, .string t] 65))
  go_enter Try.func56, Try.ntmps56
  go_upto_region 1 with fail
  generalize w.alloc (.cells #[.int .i64 kd, .bool fl, .int .i64 n, .int .i64 a, .int .i64 b, .int .i64 c, .int .i64 d, .int .i64 f.bits, .int .i64 f.depth, .bool f.big, .bool f.tru, .int .i64 f.rm, .int .i64 f.gm, .int .i64 f.bm, .int .i64 f.rs, .int .i64 f.gs, .int .i64 f.bs, en, .string t] 65) = v at *
  have R0 := hide (show IsR v.heap.size ⟨#[]⟩ true (v.alloc (.cells #[.string ⟨#[]⟩, .bool true] 134)) from Blk.new v 134 #[.string ⟨#[]⟩, .bool true])
  have hv0 := B.out.size
  have KB := hide (B.out.alloc hv0 (.cells #[.string ⟨#[]⟩, .bool true] 134))
  have O0 := hide (only_of (b := v.heap.size) (Below.refl _ (v.alloc (.cells #[.string ⟨#[]⟩, .bool true] 134))))
  have hne : w.heap.size ≠ v.heap.size := by have := F.out.lt; omega
  have F0 := hide (F.out.alloc (.cells #[.string ⟨#[]⟩, .bool true] 134))
  go_upto_region 2 with fail
  generalize v.alloc (.cells #[.string ⟨#[]⟩, .bool true] 134) = w0 at *
  have f0 : w0.cell? ⟨w.heap.size, 0, none⟩ = some (.int .i64 kd) := F0.out.cell 0
  have c0 : w0.cell? ⟨v.heap.size, 0, none⟩ = some (.string ⟨#[]⟩) := Blk.cell R0.out 0
  have p0 : w0.frozen? ⟨v.heap.size, 0, none⟩ = false := Blk.fr R0.out 0
  have c1 : w0.cell? ⟨v.heap.size, 1, none⟩ = some (.bool true) := Blk.cell R0.out 1
  have p1 : w0.frozen? ⟨v.heap.size, 1, none⟩ = false := Blk.fr R0.out 1
  have R1 := hide (Blk.set (R0.out) 1 (.bool false))
  have O1 := hide (only_trans (O0.out) (only_set v.heap.size 1 _ (.bool false)))
  have F1 := hide ((F0.out).other (p := ⟨v.heap.size, 1, none⟩) hne (.bool false))
  go_wp2_with fail
  refine (done102_any v.heap.size _ _ _ R1.out).mono ?_
  rintro e w2 ⟨rfl, rfl⟩
  go_wp2_with fail
  go_ret2
  exact ⟨rfl, KB.out.trans (only_below O1.out KB.out.size hv0)⟩

set_option maxHeartbeats 3200000 in
set_option maxRecDepth 100000 in
theorem rresult58_nil (w : World) :
    Calls Try.prog 58 #[.string ⟨#[]⟩] w fun e w' => e = .returned (.string ((⟨#[]⟩ : ByteArray) ++ putS 4 0)) ∧ Below w.heap.size w w' := by
  go_enter Try.func58, Try.ntmps58
  go_upto_region 1 with fail
  obtain ⟨v, hv⟩ : ∃ v : World, v = w := ⟨_, rfl⟩
  have B : Hid (Below w.heap.size w v) := hide (by rw [hv]; exact Below.refl _ _)
  rw [← hv]
  clear hv
  have R0 := hide (show IsR v.heap.size ⟨#[]⟩ true (v.alloc (.cells #[.string ⟨#[]⟩, .bool true] 134)) from Blk.new v 134 #[.string ⟨#[]⟩, .bool true])
  have hv0 := B.out.size
  have KB := hide (B.out.alloc hv0 (.cells #[.string ⟨#[]⟩, .bool true] 134))
  have O0 := hide (only_of (b := v.heap.size) (Below.refl _ (v.alloc (.cells #[.string ⟨#[]⟩, .bool true] 134))))
  go_upto_region 2 with fail
  generalize v.alloc (.cells #[.string ⟨#[]⟩, .bool true] 134) = w0 at *
  go_wp2_with fail
  refine (wint_any v.heap.size 4 (by simp) 0 _ _ _ R0.out (by decide)).mono ?_
  rintro e w1 ⟨rfl, hr, ho⟩
  have R1 := hide hr
  have O1 := hide (only_trans O0.out ho)
  clear hr ho
  have c0 : w1.cell? ⟨v.heap.size, 0, none⟩ = some (.string ((⟨#[]⟩ : ByteArray) ++ putS 4 0)) := Blk.cell R1.out 0
  go_wp2_with fail
  go_ret
  exact ⟨rfl, KB.out.trans (only_below O1.out KB.out.size hv0)⟩

set_option maxHeartbeats 3200000 in
set_option maxRecDepth 100000 in
theorem rresult58_some (s r : ByteArray) (w : World) (h : s.toList.isEmpty = false) (hs : s.size ≤ 1099511627776) (hr : s.extract 0 (min (s.size : Int) 4096).toNat = r) (hz : r.size ≤ 4096) :
    Calls Try.prog 58 #[.string s] w fun e w' => e = .returned (.string ((⟨#[]⟩ : ByteArray) ++ putS 4 1 ++ putS 4 r.size ++ r)) ∧ Below w.heap.size w w' := by
  go_enter Try.func58, Try.ntmps58
  go_upto_region 1 with fail
  obtain ⟨v, hv⟩ : ∃ v : World, v = w := ⟨_, rfl⟩
  have B : Hid (Below w.heap.size w v) := hide (by rw [hv]; exact Below.refl _ _)
  rw [← hv]
  clear hv
  have R0 := hide (show IsR v.heap.size ⟨#[]⟩ true (v.alloc (.cells #[.string ⟨#[]⟩, .bool true] 134)) from Blk.new v 134 #[.string ⟨#[]⟩, .bool true])
  have hv0 := B.out.size
  have KB := hide (B.out.alloc hv0 (.cells #[.string ⟨#[]⟩, .bool true] 134))
  have O0 := hide (only_of (b := v.heap.size) (Below.refl _ (v.alloc (.cells #[.string ⟨#[]⟩, .bool true] 134))))
  go_upto_region 2 with fail
  generalize v.alloc (.cells #[.string ⟨#[]⟩, .bool true] 134) = w0 at *
  go_wp2_with fail
  refine (wint_any v.heap.size 4 (by simp) 1 _ _ _ R0.out (by decide)).mono ?_
  rintro e w1 ⟨rfl, hr, ho⟩
  have R1 := hide hr
  have O1 := hide (only_trans O0.out ho)
  clear hr ho
  have hz1 : Hid (((⟨#[]⟩ : ByteArray) ++ putS 4 1).size ≤ 109951162777) := hide (by decide)
  go_wp2_with fail
  refine (long104_any v.heap.size r _ _ _ R1 hz1.out (by omega)).mono ?_
  rintro e w2 ⟨rfl, hr, ho⟩
  have R2 := hide hr
  have O2 := hide (only_trans O1.out ho)
  clear hr ho
  have c0 : w2.cell? ⟨v.heap.size, 0, none⟩ = some (.string ((⟨#[]⟩ : ByteArray) ++ putS 4 1 ++ putS 4 r.size ++ r)) := Blk.cell R2.out 0
  go_wp2_with fail
  go_ret
  exact ⟨rfl, KB.out.trans (only_below O2.out KB.out.size hv0)⟩

end Go.Proofs.Ytodlpofpeoiedaa
