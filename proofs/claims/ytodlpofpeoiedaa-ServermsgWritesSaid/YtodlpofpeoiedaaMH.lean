/-
  The colours of bytes: plain.RawOf.
-/
import Derived.Test.YtodlpofpeoiedaaMG
import Derived.Test.YtodlpofpeoiedaaME
import Derived.Test.YtodlpofpeoiedaaMD
namespace Go.Proofs.Ytodlpofpeoiedaa
open Go.RowKit Go.Sort

theorem info3 : (Try.prog.info? 3).map (fun i => (i.zero, i.size, i.bytes)) = some (some (.int .i64 0), 1, 8) := by kernel_rfl

def szOf : Value → Nat
  | .string t => t.size
  | _ => 0

theorem own_base {w : World} {base base' e sz n : Nat} {v : Value} {xs : List Value} (h : w.ownsRow base' e sz v n xs) (hb : base ≤ base') : w.ownsRow base e sz v n xs := by
  refine ⟨h.1, h.2.imp id ?_⟩
  rintro ⟨g, cap, cur, h1, h2, h3⟩
  exact ⟨g, cap, cur, h1, Nat.le_trans hb h2, h3⟩

theorem own_below {w w' : World} {base e sz n : Nat} {v : Value} {xs : List Value} (h : w.ownsRow base e sz v n xs) (hb : Below w.heap.size w w') : w'.ownsRow base e sz v n xs := by
  refine h.kept (row := none) ⟨hb.os, hb.tape, hb.output, hb.size, fun k hk _ => hb.block k hk⟩ ?_
  by_cases hv : v.ownBlock = none
  · exact .inl hv
  · exact .inr hv

set_option maxHeartbeats 1600000 in
set_option maxRecDepth 100000 in
theorem rawOf_walk (f : Fmt) (a b p : Int) (k m n : Nat) (s : ByteArray) (t : Nat → ByteArray) (x y u : Nat → Int) (w : World)
    (hp : a * b = p) (hp0 : 0 ≤ p ∧ p ≤ 16777216) (hn : p * k = n) (hn1 : (n : Int) ≤ 67108864) (hs : n ≤ s.size) (hs2 : s.size ≤ 1099511627776) (hk : 1 ≤ k ∧ k ≤ 4)
    (ht0 : s.extract 0 n = t 0) (hts : ∀ j, j ≤ m → (t j).size = (m - j) * k) (htn : ∀ j, j < m → (t j).extract k (t j).size = t (j + 1)) (hm : m ≤ 16777216)
    (K24 : Hid (∀ w, Calls Try.prog 24 #[fmtV f, .int .i64 a, .int .i64 b] w fun e w' => e = .returned (.bool true) ∧ Below w.heap.size w w'))
    (K27 : Hid (∀ w, Calls Try.prog 27 #[fmtV f] w fun e w' => e = .returned (.int .i64 k) ∧ Below w.heap.size w w'))
    (K41 : Hid (∀ j, j < m → ∀ w, Calls Try.prog 41 #[fmtV f, .string (t j)] w fun e w' => e = .returned (.tuple #[.int .i64 (x j), .int .i64 (y j)]) ∧ Below w.heap.size w w'))
    (K40 : Hid (∀ j, j < m → ∀ w, Calls Try.prog 40 #[fmtV f, .int .i64 (x j)] w fun e w' => e = .returned (.int .i64 (u j)) ∧ Below w.heap.size w w')) :
    Calls Try.prog 26 #[fmtV f, .int .i64 a, .int .i64 b, .string s] w fun e w' => ∃ v, e = .returned (.tuple #[v, .int .i64 n, .int .i64 0]) ∧ w'.ownsRow w.heap.size 3 1 v m (((List.range m).map u).map (Value.int .i64)) ∧ Below w.heap.size w w' := by
  obtain ⟨i0, hi, hz0, hz1, hz2⟩ := info_parts info3
  have F0 := hide (Blk.new w 23 #[.int .i64 f.bits, .int .i64 f.depth, .bool f.big, .bool f.tru, .int .i64 f.rm, .int .i64 f.gm, .int .i64 f.bm, .int .i64 f.rs, .int .i64 f.gs, .int .i64 f.bs])
  have B0 := hide ((Below.refl w.heap.size w).alloc (Nat.le_refl _) (.cells #[.int .i64 f.bits, .int .i64 f.depth, .bool f.big, .bool f.tru, .int .i64 f.rm, .int .i64 f.gm, .int .i64 f.bm, .int .i64 f.rs, .int .i64 f.gs, .int .i64 f.bs] 23))
  go_enter Try.func26, Try.ntmps26
  go_upto_region 1 with fail
  generalize w.alloc (.cells #[.int .i64 f.bits, .int .i64 f.depth, .bool f.big, .bool f.tru, .int .i64 f.rm, .int .i64 f.gm, .int .i64 f.bm, .int .i64 f.rs, .int .i64 f.gs, .int .i64 f.bs] 23) = w0 at *
  have f0 : w0.cell? ⟨w.heap.size, 0, none⟩ = some (.int .i64 f.bits) := F0.out.cell 0
  have f1 : w0.cell? ⟨w.heap.size, 1, none⟩ = some (.int .i64 f.depth) := F0.out.cell 1
  have f2 : w0.cell? ⟨w.heap.size, 2, none⟩ = some (.bool f.big) := F0.out.cell 2
  have f3 : w0.cell? ⟨w.heap.size, 3, none⟩ = some (.bool f.tru) := F0.out.cell 3
  have f4 : w0.cell? ⟨w.heap.size, 4, none⟩ = some (.int .i64 f.rm) := F0.out.cell 4
  have f5 : w0.cell? ⟨w.heap.size, 5, none⟩ = some (.int .i64 f.gm) := F0.out.cell 5
  have f6 : w0.cell? ⟨w.heap.size, 6, none⟩ = some (.int .i64 f.bm) := F0.out.cell 6
  have f7 : w0.cell? ⟨w.heap.size, 7, none⟩ = some (.int .i64 f.rs) := F0.out.cell 7
  have f8 : w0.cell? ⟨w.heap.size, 8, none⟩ = some (.int .i64 f.gs) := F0.out.cell 8
  have f9 : w0.cell? ⟨w.heap.size, 9, none⟩ = some (.int .i64 f.bs) := F0.out.cell 9
  go_wp2_with fail
  refine (K24.out _).mono ?_
  rintro e w1 ⟨rfl, hb1⟩
  have F1 := hide (F0.out.below hb1)
  have B1 := hide (B0.out.trans (hb1.mono B0.out.size))
  clear hb1
  go_wp2_with fail
  refine (new_any _ _).mono ?_
  rintro e w2 ⟨rfl, hc2, hb2, hz2'⟩
  have F2 := hide (F1.out.below hb2)
  have B2 := hide (B1.out.trans (hb2.mono B1.out.size))
  have I2 := hide hc2
  have lt1 := F1.out.lt
  clear hc2 hb2
  clear f0 f1 f2 f3 f4 f5 f6 f7 f8 f9
  have f0 : w2.cell? ⟨w.heap.size, 0, none⟩ = some (.int .i64 f.bits) := F2.out.cell 0
  have f1 : w2.cell? ⟨w.heap.size, 1, none⟩ = some (.int .i64 f.depth) := F2.out.cell 1
  have f2 : w2.cell? ⟨w.heap.size, 2, none⟩ = some (.bool f.big) := F2.out.cell 2
  have f3 : w2.cell? ⟨w.heap.size, 3, none⟩ = some (.bool f.tru) := F2.out.cell 3
  have f4 : w2.cell? ⟨w.heap.size, 4, none⟩ = some (.int .i64 f.rm) := F2.out.cell 4
  have f5 : w2.cell? ⟨w.heap.size, 5, none⟩ = some (.int .i64 f.gm) := F2.out.cell 5
  have f6 : w2.cell? ⟨w.heap.size, 6, none⟩ = some (.int .i64 f.bm) := F2.out.cell 6
  have f7 : w2.cell? ⟨w.heap.size, 7, none⟩ = some (.int .i64 f.rs) := F2.out.cell 7
  have f8 : w2.cell? ⟨w.heap.size, 8, none⟩ = some (.int .i64 f.gs) := F2.out.cell 8
  have f9 : w2.cell? ⟨w.heap.size, 9, none⟩ = some (.int .i64 f.bs) := F2.out.cell 9
  go_wp2_with fail
  refine (K27.out _).mono ?_
  rintro e w3 ⟨rfl, hb3⟩
  have F3 := hide (F2.out.below hb3)
  have B3 := hide (B2.out.trans (hb3.mono B2.out.size))
  have I3 := hide (I2.out.keep (hb3.mono (by omega)))
  clear hb3
  go_wp2_with fail
  obtain ⟨ce, co, _⟩ := Cu.step (s := s) (i := 0) (n := n) (by omega)
  rw [Nat.zero_add] at ce co
  have n1 : w.heap.size ≠ w1.heap.size := by omega
  refine (bytes_at _ ⟨s, 0, 0⟩ ⟨s, n, 0⟩ n (t 0) _ (by omega) I3.out (hide ⟨by simp, hs2⟩) (hide ce.symm) (hide (ht0.symm.trans co.symm))).mono ?_
  rintro e w4 ⟨rfl, hc4, ho4⟩
  have F4 := hide (F3.out.only ho4 n1)
  have I4 := hide hc4
  have B4 := hide (Below.grown B3.out ho4 B3.out.size (by intro k hk; cases hk; omega))
  clear hc4 ho4 co ce
  go_wp2_with fail
  refine (err_any _ _ _ I4.out).mono ?_
  rintro e w5 ⟨rfl, rfl⟩
  clear f0 f1 f2 f3 f4 f5 f6 f7 f8 f9
  clear F0 F1 F2 F3 I2 I3 B0 B1 B2 B3
  go_wp2_with fail
  have hb4 := B4.out.size
  have lt4 := I4.out.lt
  have T1 := hide hts
  have T2 := hide htn
  clear hts htn
  go_loopw [12, 14] (fun T v wr => ∃ j : Nat, j ≤ m ∧ T = .string (t j) ∧ Hid (wr.ownsRow w4.heap.size 3 1 v j (((List.range j).map u).map (Value.int .i64))) ∧ Hid (Blk w.heap.size 23 #[.int .i64 f.bits, .int .i64 f.depth, .bool f.big, .bool f.tru, .int .i64 f.rm, .int .i64 f.gm, .int .i64 f.bm, .int .i64 f.rs, .int .i64 f.gs, .int .i64 f.bs] wr) ∧ Hid (IsCur 163 w1.heap.size ⟨s, n, 0⟩ wr) ∧ Hid (Below w.heap.size w wr) ∧ w4.heap.size ≤ wr.heap.size) (fun T _ _ => szOf T)
  case atStart => exact ⟨0, by omega, rfl, hide (World.ownsRow_nil _ _ _ _), F4, I4, B4, Nat.le_refl _⟩
  case round =>
    obtain ⟨j, hj, rfl, hown, hF, hI, hB, hsz⟩ := hrel
    have hz := T1.out j hj
    by_cases hlt : j < m
    · have hx := T2.out j hlt
      have hz' := T1.out (j + 1) hlt
      have hr : k ≤ (m - j) * k := Nat.le_mul_of_pos_left k (by omega)
      have hsm : (m - j) * k ≤ 67108864 := Nat.le_trans (Nat.mul_le_mul (show m - j ≤ 16777216 by omega) hk.2) (by decide)
      have hdec : (t (j + 1)).size < (t j).size := by
        rw [hz, hz', show m - j = (m - (j + 1)) + 1 by omega, Nat.succ_mul]
        omega
      have HD := hide hdec
      clear hdec
      have c41 := hide (K41.out j hlt)
      have c40 := hide (K40.out j hlt)
      rw [hz] at hx
      generalize (m - j) * k = r at *
      have hzz : ((t j).size : Int) = r := by omega
      have hr' : 0 < r := by omega
      generalize hT : t j = T at *
      generalize hT' : t (j + 1) = T' at *
      have H1 := hide hT
      have H2 := hide hT'
      clear hT hT' hz'
      have f0 : wr.cell? ⟨w.heap.size, 0, none⟩ = some (.int .i64 f.bits) := hF.out.cell 0
      have f1 : wr.cell? ⟨w.heap.size, 1, none⟩ = some (.int .i64 f.depth) := hF.out.cell 1
      have f2 : wr.cell? ⟨w.heap.size, 2, none⟩ = some (.bool f.big) := hF.out.cell 2
      have f3 : wr.cell? ⟨w.heap.size, 3, none⟩ = some (.bool f.tru) := hF.out.cell 3
      have f4 : wr.cell? ⟨w.heap.size, 4, none⟩ = some (.int .i64 f.rm) := hF.out.cell 4
      have f5 : wr.cell? ⟨w.heap.size, 5, none⟩ = some (.int .i64 f.gm) := hF.out.cell 5
      have f6 : wr.cell? ⟨w.heap.size, 6, none⟩ = some (.int .i64 f.bm) := hF.out.cell 6
      have f7 : wr.cell? ⟨w.heap.size, 7, none⟩ = some (.int .i64 f.rs) := hF.out.cell 7
      have f8 : wr.cell? ⟨w.heap.size, 8, none⟩ = some (.int .i64 f.gs) := hF.out.cell 8
      have f9 : wr.cell? ⟨w.heap.size, 9, none⟩ = some (.int .i64 f.bs) := hF.out.cell 9
      go_wp2_with fail
      refine (c41.out _).mono ?_
      rintro e w5 ⟨rfl, hb5⟩
      have hF5 := hide (hF.out.below hb5)
      have hI5 := hide (hI.out.keep hb5)
      have hB5 := hide (hB.out.trans (hb5.mono hB.out.size))
      have hO5 := hide (own_below hown.out hb5)
      have hs5 := Nat.le_trans hsz hb5.size
      clear hb5
      clear f0 f1 f2 f3 f4 f5 f6 f7 f8 f9
      have f0 : w5.cell? ⟨w.heap.size, 0, none⟩ = some (.int .i64 f.bits) := hF5.out.cell 0
      have f1 : w5.cell? ⟨w.heap.size, 1, none⟩ = some (.int .i64 f.depth) := hF5.out.cell 1
      have f2 : w5.cell? ⟨w.heap.size, 2, none⟩ = some (.bool f.big) := hF5.out.cell 2
      have f3 : w5.cell? ⟨w.heap.size, 3, none⟩ = some (.bool f.tru) := hF5.out.cell 3
      have f4 : w5.cell? ⟨w.heap.size, 4, none⟩ = some (.int .i64 f.rm) := hF5.out.cell 4
      have f5 : w5.cell? ⟨w.heap.size, 5, none⟩ = some (.int .i64 f.gm) := hF5.out.cell 5
      have f6 : w5.cell? ⟨w.heap.size, 6, none⟩ = some (.int .i64 f.bm) := hF5.out.cell 6
      have f7 : w5.cell? ⟨w.heap.size, 7, none⟩ = some (.int .i64 f.rs) := hF5.out.cell 7
      have f8 : w5.cell? ⟨w.heap.size, 8, none⟩ = some (.int .i64 f.gs) := hF5.out.cell 8
      have f9 : w5.cell? ⟨w.heap.size, 9, none⟩ = some (.int .i64 f.bs) := hF5.out.cell 9
      go_wp2_with fail
      refine (c40.out _).mono ?_
      rintro e w6 ⟨rfl, hb6⟩
      have hF6 := hide (hF5.out.below hb6)
      have hI6 := hide (hI5.out.keep hb6)
      have hB6 := hide (hB5.out.trans (hb6.mono hB5.out.size))
      have hO6 := own_below hO5.out hb6
      have hs6 := Nat.le_trans hs5 hb6.size
      have hbw := hB6.out.size
      clear hb6
      clear f0 f1 f2 f3 f4 f5 f6 f7 f8 f9
      go_wp2_with (at_builtin; refine wpList_append_own _ rfl _ _ 32 rfl w4.heap.size 3 i0 (.int .i64 0) 1 8 Try.underlying32 hi hz0 hz1 hz2 rfl (by decide) _ _ _ rfl (hO6.alloc _) ⟨w6.heap.size, 0, none⟩ 1 1 [.int .i64 (u j)] rfl rfl ?c1 ?c2 ?c3 ?c4 ?c5 ?_)
      case c1 =>
        intro j u hj
        match j, hj with
        | 0, hj => simp at hj; subst hj; simp [Addr.add]
      case c2 => intro u hu; simp at hu; subst hu; rfl
      case c3 => unfold maxLen; omega
      case c4 => omega
      case c5 => simp; omega
      intro v' w7 hown' hgrow _
      have hne1 : ∀ q, q < w4.heap.size → some q ≠ Value.ownBlock _ := fun q hq e => absurd (hO6.lt q e.symm).1 (by omega)
      have hF7 := hide ((hgrow.block w.heap.size (by simp; omega) (hne1 _ (by omega))).trans (hF6.out.alloc (.cells #[.int .i64 (u j)] 3)))
      have hI7 := hide ((hgrow.block w1.heap.size (by simp; omega) (hne1 _ lt4)).trans (hI6.out.alloc (.cells #[.int .i64 (u j)] 3)))
      have hB7 := hide (Below.grown (hB6.out.alloc hbw (.cells #[.int .i64 (u j)] 3)) hgrow (by simp; omega) (fun q e => by have := (hO6.lt q e).1; omega))
      have hO7 := hide hown'
      have hs7 : w4.heap.size ≤ w7.heap.size := Nat.le_trans hs6 (Nat.le_trans (by simp) hgrow.size)
      clear hgrow hown' hO6 hne1
      have hF7' := hide (show Blk w.heap.size 23 #[.int .i64 f.bits, .int .i64 f.depth, .bool f.big, .bool f.tru, .int .i64 f.rm, .int .i64 f.gm, .int .i64 f.bm, .int .i64 f.rs, .int .i64 f.gs, .int .i64 f.bs] w7 from hF7.out)
      have f0 : w7.cell? ⟨w.heap.size, 0, none⟩ = some (.int .i64 f.bits) := hF7'.out.cell 0
      have f1 : w7.cell? ⟨w.heap.size, 1, none⟩ = some (.int .i64 f.depth) := hF7'.out.cell 1
      have f2 : w7.cell? ⟨w.heap.size, 2, none⟩ = some (.bool f.big) := hF7'.out.cell 2
      have f3 : w7.cell? ⟨w.heap.size, 3, none⟩ = some (.bool f.tru) := hF7'.out.cell 3
      have f4 : w7.cell? ⟨w.heap.size, 4, none⟩ = some (.int .i64 f.rm) := hF7'.out.cell 4
      have f5 : w7.cell? ⟨w.heap.size, 5, none⟩ = some (.int .i64 f.gm) := hF7'.out.cell 5
      have f6 : w7.cell? ⟨w.heap.size, 6, none⟩ = some (.int .i64 f.bm) := hF7'.out.cell 6
      have f7 : w7.cell? ⟨w.heap.size, 7, none⟩ = some (.int .i64 f.rs) := hF7'.out.cell 7
      have f8 : w7.cell? ⟨w.heap.size, 8, none⟩ = some (.int .i64 f.gs) := hF7'.out.cell 8
      have f9 : w7.cell? ⟨w.heap.size, 9, none⟩ = some (.int .i64 f.bs) := hF7'.out.cell 9
      go_wp2_with fail
      refine (K27.out _).mono ?_
      rintro e w8 ⟨rfl, hb8⟩
      have hF8 := hide (hF7'.out.below hb8)
      have hI8 := hide (IsCur.keep (T := 163) (c := ⟨s, n, 0⟩) hI7.out hb8)
      have hB8 := hide (hB7.out.trans (hb8.mono hB7.out.size))
      have hO8 := hide (own_below hO7.out hb8)
      have hs8 := Nat.le_trans hs7 hb8.size
      clear hb8
      clear f0 f1 f2 f3 f4 f5 f6 f7 f8 f9
      go_wp2_with fail
      go_roundw
      case rel =>
        refine ⟨j + 1, by omega, by rw [H2.out], hide ?_, hF8, hI8, hB8, hs8⟩
        rw [List.range_succ, List.map_append, List.map_append]
        simp only [List.map_map]
        exact hO8.out
      case measure => exact HD.out
    · obtain rfl : j = m := by omega
      rw [Nat.sub_self, Nat.zero_mul] at hz
      have HO := hown
      clear hown
      go_wp2_with fail
      refine (at_any _ _ _ hI.out).mono ?_
      rintro e w6 ⟨rfl, rfl⟩
      go_wp2_with fail
      go_ret3
      exact ⟨_, rfl, own_base HO.out hb4, hB.out⟩

end Go.Proofs.Ytodlpofpeoiedaa

/-
  The colours of bytes: plain.RawOf, where there are none.
-/
namespace Go.Proofs.Ytodlpofpeoiedaa
open Go.RowKit Go.Sort

set_option maxHeartbeats 1600000 in
set_option maxRecDepth 100000 in
theorem rawOf_no (f : Fmt) (a b : Int) (s : ByteArray) (w : World)
    (K24 : Hid (∀ w, Calls Try.prog 24 #[fmtV f, .int .i64 a, .int .i64 b] w fun e w' => e = .returned (.bool false) ∧ Below w.heap.size w w'))
    : Calls Try.prog 26 #[fmtV f, .int .i64 a, .int .i64 b, .string s] w fun e w' => e = .returned (.tuple #[.slice none 0 0, .int .i64 0, .int .i64 1]) ∧ Below w.heap.size w w' := by
  have F0 := hide (Blk.new w 23 #[.int .i64 f.bits, .int .i64 f.depth, .bool f.big, .bool f.tru, .int .i64 f.rm, .int .i64 f.gm, .int .i64 f.bm, .int .i64 f.rs, .int .i64 f.gs, .int .i64 f.bs])
  have B0 := hide ((Below.refl w.heap.size w).alloc (Nat.le_refl _) (.cells #[.int .i64 f.bits, .int .i64 f.depth, .bool f.big, .bool f.tru, .int .i64 f.rm, .int .i64 f.gm, .int .i64 f.bm, .int .i64 f.rs, .int .i64 f.gs, .int .i64 f.bs] 23))
  go_enter Try.func26, Try.ntmps26
  go_upto_region 1 with fail
  generalize w.alloc (.cells #[.int .i64 f.bits, .int .i64 f.depth, .bool f.big, .bool f.tru, .int .i64 f.rm, .int .i64 f.gm, .int .i64 f.bm, .int .i64 f.rs, .int .i64 f.gs, .int .i64 f.bs] 23) = w0 at *
  have f0 : w0.cell? ⟨w.heap.size, 0, none⟩ = some (.int .i64 f.bits) := F0.out.cell 0
  have f1 : w0.cell? ⟨w.heap.size, 1, none⟩ = some (.int .i64 f.depth) := F0.out.cell 1
  have f2 : w0.cell? ⟨w.heap.size, 2, none⟩ = some (.bool f.big) := F0.out.cell 2
  have f3 : w0.cell? ⟨w.heap.size, 3, none⟩ = some (.bool f.tru) := F0.out.cell 3
  have f4 : w0.cell? ⟨w.heap.size, 4, none⟩ = some (.int .i64 f.rm) := F0.out.cell 4
  have f5 : w0.cell? ⟨w.heap.size, 5, none⟩ = some (.int .i64 f.gm) := F0.out.cell 5
  have f6 : w0.cell? ⟨w.heap.size, 6, none⟩ = some (.int .i64 f.bm) := F0.out.cell 6
  have f7 : w0.cell? ⟨w.heap.size, 7, none⟩ = some (.int .i64 f.rs) := F0.out.cell 7
  have f8 : w0.cell? ⟨w.heap.size, 8, none⟩ = some (.int .i64 f.gs) := F0.out.cell 8
  have f9 : w0.cell? ⟨w.heap.size, 9, none⟩ = some (.int .i64 f.bs) := F0.out.cell 9
  go_wp2_with fail
  refine (K24.out _).mono ?_
  rintro e w1 ⟨rfl, hb1⟩
  have B1 := hide (B0.out.trans (hb1.mono B0.out.size))
  clear hb1
  go_wp2_with fail
  go_ret3
  exact ⟨rfl, B1.out⟩

set_option maxHeartbeats 1600000 in
set_option maxRecDepth 100000 in
theorem rawOf_short (f : Fmt) (a b p : Int) (k n : Nat) (s : ByteArray) (w : World)
    (hp : a * b = p) (hp0 : 0 ≤ p ∧ p ≤ 16777216) (hn : p * k = n) (hn1 : (n : Int) ≤ 67108864) (hs : s.size < n) (hs2 : s.size ≤ 1099511627776)
    (K24 : Hid (∀ w, Calls Try.prog 24 #[fmtV f, .int .i64 a, .int .i64 b] w fun e w' => e = .returned (.bool true) ∧ Below w.heap.size w w'))
    (K27 : Hid (∀ w, Calls Try.prog 27 #[fmtV f] w fun e w' => e = .returned (.int .i64 k) ∧ Below w.heap.size w w'))
    : Calls Try.prog 26 #[fmtV f, .int .i64 a, .int .i64 b, .string s] w fun e w' => e = .returned (.tuple #[.slice none 0 0, .int .i64 0, .int .i64 2]) ∧ Below w.heap.size w w' := by
  have F0 := hide (Blk.new w 23 #[.int .i64 f.bits, .int .i64 f.depth, .bool f.big, .bool f.tru, .int .i64 f.rm, .int .i64 f.gm, .int .i64 f.bm, .int .i64 f.rs, .int .i64 f.gs, .int .i64 f.bs])
  have B0 := hide ((Below.refl w.heap.size w).alloc (Nat.le_refl _) (.cells #[.int .i64 f.bits, .int .i64 f.depth, .bool f.big, .bool f.tru, .int .i64 f.rm, .int .i64 f.gm, .int .i64 f.bm, .int .i64 f.rs, .int .i64 f.gs, .int .i64 f.bs] 23))
  go_enter Try.func26, Try.ntmps26
  go_upto_region 1 with fail
  generalize w.alloc (.cells #[.int .i64 f.bits, .int .i64 f.depth, .bool f.big, .bool f.tru, .int .i64 f.rm, .int .i64 f.gm, .int .i64 f.bm, .int .i64 f.rs, .int .i64 f.gs, .int .i64 f.bs] 23) = w0 at *
  have f0 : w0.cell? ⟨w.heap.size, 0, none⟩ = some (.int .i64 f.bits) := F0.out.cell 0
  have f1 : w0.cell? ⟨w.heap.size, 1, none⟩ = some (.int .i64 f.depth) := F0.out.cell 1
  have f2 : w0.cell? ⟨w.heap.size, 2, none⟩ = some (.bool f.big) := F0.out.cell 2
  have f3 : w0.cell? ⟨w.heap.size, 3, none⟩ = some (.bool f.tru) := F0.out.cell 3
  have f4 : w0.cell? ⟨w.heap.size, 4, none⟩ = some (.int .i64 f.rm) := F0.out.cell 4
  have f5 : w0.cell? ⟨w.heap.size, 5, none⟩ = some (.int .i64 f.gm) := F0.out.cell 5
  have f6 : w0.cell? ⟨w.heap.size, 6, none⟩ = some (.int .i64 f.bm) := F0.out.cell 6
  have f7 : w0.cell? ⟨w.heap.size, 7, none⟩ = some (.int .i64 f.rs) := F0.out.cell 7
  have f8 : w0.cell? ⟨w.heap.size, 8, none⟩ = some (.int .i64 f.gs) := F0.out.cell 8
  have f9 : w0.cell? ⟨w.heap.size, 9, none⟩ = some (.int .i64 f.bs) := F0.out.cell 9
  go_wp2_with fail
  refine (K24.out _).mono ?_
  rintro e w1 ⟨rfl, hb1⟩
  have F1 := hide (F0.out.below hb1)
  have B1 := hide (B0.out.trans (hb1.mono B0.out.size))
  clear hb1
  go_wp2_with fail
  refine (new_any _ _).mono ?_
  rintro e w2 ⟨rfl, hc2, hb2, hz2'⟩
  have F2 := hide (F1.out.below hb2)
  have B2 := hide (B1.out.trans (hb2.mono B1.out.size))
  have I2 := hide hc2
  have lt1 := F1.out.lt
  clear hc2 hb2
  clear f0 f1 f2 f3 f4 f5 f6 f7 f8 f9
  have f0 : w2.cell? ⟨w.heap.size, 0, none⟩ = some (.int .i64 f.bits) := F2.out.cell 0
  have f1 : w2.cell? ⟨w.heap.size, 1, none⟩ = some (.int .i64 f.depth) := F2.out.cell 1
  have f2 : w2.cell? ⟨w.heap.size, 2, none⟩ = some (.bool f.big) := F2.out.cell 2
  have f3 : w2.cell? ⟨w.heap.size, 3, none⟩ = some (.bool f.tru) := F2.out.cell 3
  have f4 : w2.cell? ⟨w.heap.size, 4, none⟩ = some (.int .i64 f.rm) := F2.out.cell 4
  have f5 : w2.cell? ⟨w.heap.size, 5, none⟩ = some (.int .i64 f.gm) := F2.out.cell 5
  have f6 : w2.cell? ⟨w.heap.size, 6, none⟩ = some (.int .i64 f.bm) := F2.out.cell 6
  have f7 : w2.cell? ⟨w.heap.size, 7, none⟩ = some (.int .i64 f.rs) := F2.out.cell 7
  have f8 : w2.cell? ⟨w.heap.size, 8, none⟩ = some (.int .i64 f.gs) := F2.out.cell 8
  have f9 : w2.cell? ⟨w.heap.size, 9, none⟩ = some (.int .i64 f.bs) := F2.out.cell 9
  go_wp2_with fail
  refine (K27.out _).mono ?_
  rintro e w3 ⟨rfl, hb3⟩
  have F3 := hide (F2.out.below hb3)
  have B3 := hide (B2.out.trans (hb3.mono B2.out.size))
  have I3 := hide (I2.out.keep (hb3.mono (by omega)))
  clear hb3
  go_wp2_with fail
  have he : ((⟨s, 0, 0⟩ : Cu).bytes n).e = 2 := Cu.run_short [n] ⟨s, 0, 0⟩ rfl (by show s.size - 0 < n + 0; omega)
  have n1 : w.heap.size ≠ w1.heap.size := by omega
  refine (bytes_at _ ⟨s, 0, 0⟩ _ n _ _ (by omega) I3.out (hide ⟨by simp, hs2⟩) (hide rfl) (hide rfl)).mono ?_
  rintro e w4 ⟨rfl, hc4, ho4⟩
  have I4 := hide hc4
  have B4 := hide (Below.grown B3.out ho4 B3.out.size (by intro k hk; cases hk; omega))
  clear hc4 ho4
  have HE : Calls Try.prog 75 #[.pointer (some ⟨w1.heap.size, 0, none⟩)] w4 fun en w' => en = .returned (.int .i64 2) ∧ w4 = w' := by
    have := err_any _ _ _ I4.out
    rwa [he] at this
  have HE' := hide HE
  clear HE
  generalize (⟨s, 0, 0⟩ : Cu).out n = S at *
  go_wp2_with fail
  refine HE'.out.mono ?_
  rintro e w5 ⟨rfl, rfl⟩
  go_wp2_with fail
  go_ret3
  exact ⟨rfl, B4.out⟩

end Go.Proofs.Ytodlpofpeoiedaa

/-
  The colours of bytes: plain.RawOf, joined.
-/
namespace Go.Proofs.Ytodlpofpeoiedaa
open Go.RowKit Go.Sort

theorem ext_ext (s : ByteArray) (i n k : Nat) (h : n ≤ s.size) (hi : i + k ≤ n) : (s.extract i n).extract k (s.extract i n).size = s.extract (i + k) n := by
  have e : ((s.extract i n).extract k (s.extract i n).size).data.toList = (s.extract (i + k) n).data.toList := by
    rw [ByteArray.data_extract, ByteArray.data_extract, ByteArray.data_extract, Array.toList_extract, Array.toList_extract, Array.toList_extract, List.extract_eq_take_drop, List.extract_eq_take_drop, List.extract_eq_take_drop,
      ByteArray.size_extract, List.drop_take, List.drop_drop, List.take_take]
    congr 1
    omega
  have e2 := Array.ext' e
  cases h1 : (s.extract i n).extract k (s.extract i n).size
  cases h2 : s.extract (i + k) n
  rw [h1, h2] at e2
  exact congrArg ByteArray.mk e2

theorem fits_parts {f : Fmt} {a b : Int} (h : fitsB f a b = true) : validB f = true ∧ (0 ≤ a ∧ a ≤ 4096) ∧ 0 ≤ b ∧ b ≤ 4096 := by
  simp only [fitsB, sideB, Bool.and_eq_true, decide_eq_true_eq] at h
  exact ⟨h.1.1, h.1.2, h.2⟩

/-- The colours of bytes. -/
def pixL (f : Fmt) (s : ByteArray) (m : Nat) : List Int := (List.range m).map fun j => colV f (getV f (sizeN f) (s.extract (j * sizeN f) (m * sizeN f)))

theorem area {a b : Int} (ha : 0 ≤ a ∧ a ≤ 4096) (hb : 0 ≤ b ∧ b ≤ 4096) : ∃ m : Nat, a * b = m ∧ m ≤ 16777216 := by
  have h := mul_bd ha.1 ha.2 hb.1 hb.2
  exact ⟨(a * b).toNat, by omega, by omega⟩

theorem rawOf_yes (f : Fmt) (a b : Int) (m : Nat) (s : ByteArray) (w : World) (hf : f.fit) (h : fitsB f a b = true) (hm : a * b = m) (hs : m * sizeN f ≤ s.size) (hs2 : s.size ≤ 1099511627776) :
    Calls Try.prog 26 #[fmtV f, .int .i64 a, .int .i64 b, .string s] w fun e w' => ∃ v, e = .returned (.tuple #[v, .int .i64 ((m * sizeN f : Nat) : Int), .int .i64 0]) ∧ w'.ownsRow w.heap.size 3 1 v m ((pixL f s m).map (Value.int .i64)) ∧ Below w.heap.size w w' := by
  obtain ⟨hv, ha, hb⟩ := fits_parts h
  obtain ⟨m', hm', hl⟩ := area ha hb
  obtain rfl : m = m' := by omega
  have K24 := fun w => fits_any f a b w hf
  rw [h] at K24
  obtain ⟨_, hk⟩ := size_valid hv
  have hml : m * sizeN f ≤ 67108864 := Nat.le_trans (Nat.mul_le_mul hl (size_le f)) (by decide)
  refine rawOf_walk f a b m (sizeN f) m (m * sizeN f) s (fun j => s.extract (j * sizeN f) (m * sizeN f)) (fun j => getV f (sizeN f) (s.extract (j * sizeN f) (m * sizeN f))) (fun j => getE f (sizeN f) (s.extract (j * sizeN f) (m * sizeN f))) _ w
    hm (by omega) (by simp) (by omega) hs hs2 (by omega) (by simp) (fun j hj => ?_) (fun j hj => ?_) hl K24 (fun w => size_any f w hf) (fun j _ w => get41_any f _ w hf) (fun j _ w => colour_any f _ w hv)
  · show (s.extract (j * sizeN f) (m * sizeN f)).size = _
    rw [ByteArray.size_extract, Nat.sub_mul]
    omega
  · have hj2 : j * sizeN f + sizeN f ≤ m * sizeN f := by rw [← Nat.succ_mul]; exact Nat.mul_le_mul_right _ hj
    have := ext_ext s (j * sizeN f) (m * sizeN f) (sizeN f) hs hj2
    show ((s.extract (j * sizeN f) (m * sizeN f)).extract _ _) = _
    rw [this, Nat.succ_mul]

end Go.Proofs.Ytodlpofpeoiedaa

/-
  The document's Row: are two rows the same?
-/
namespace Go.Proofs.Ytodlpofpeoiedaa
open Go.RowKit Go.Sort

/-- What a row of numbers reads as, for a reader: nil, or cells. -/
def IsInts (w : World) (ad : Option Addr) (n : Nat) (xs : List Int) : Prop := xs.length = n ∧ (n = 0 ∨ ∃ g o, ad = some ⟨g, o, none⟩ ∧ ∀ j, j < n → w.cell? ⟨g, o + j, none⟩ = some (.int .i64 (xs.getD j 0)))

set_option maxHeartbeats 1600000 in
set_option maxRecDepth 100000 in
theorem row_len (a1 a2 : Option Addr) (n1 n2 c1 c2 : Nat) (w : World) (h : n1 ≠ n2) :
    Calls Try.prog 30 #[.slice a1 n1 c1, .slice a2 n2 c2] w fun e w' => e = .returned (.bool false) ∧ Below w.heap.size w w' := by
  have h' : ((n1 : Int) == (n2 : Int)) = false := by simp; omega
  go_enter Try.func30, Try.ntmps30
  go_wp2_with fail
  go_ret
  exact ⟨rfl, Below.refl _ _⟩

set_option maxHeartbeats 1600000 in
set_option maxRecDepth 100000 in
theorem row_walk (g o g2 o2 n c1 c2 : Nat) (xs ys : List Int) (w : World) (hxl : xs.length = n) (hyl : ys.length = n) (hn : n ≤ 9223372036854775807) (hg : g < w.heap.size) (hg2 : g2 < w.heap.size)
    (hx : Hid (∀ j, j < n → w.cell? ⟨g, o + j, none⟩ = some (.int .i64 (xs.getD j 0)))) (hy : Hid (∀ j, j < n → w.cell? ⟨g2, o2 + j, none⟩ = some (.int .i64 (ys.getD j 0)))) :
    Calls Try.prog 30 #[.slice (some ⟨g, o, none⟩) n c1, .slice (some ⟨g2, o2, none⟩) n c2] w fun e w' => e = .returned (.bool (decide (xs = ys))) ∧ Below w.heap.size w w' := by
  go_enter Try.func30, Try.ntmps30
  go_wp2_with fail
  go_loopw [5] (fun i wr => ∃ j : Nat, j ≤ n ∧ i = .int .i64 j ∧ Hid (xs.take j = ys.take j) ∧ Hid (Below w.heap.size w wr)) (fun i _ => n - (intOf i).toNat)
  case atStart => exact ⟨0, by omega, rfl, hide rfl, hide (Below.refl _ _)⟩
  case round =>
    obtain ⟨j, hj, rfl, he, hB⟩ := hrel
    by_cases hlt : j < n
    · have hx1 := (hB.out.cell (p := ⟨g, o + j, none⟩) hg).trans (hx.out j hlt)
      have hy1 := (hB.out.cell (p := ⟨g2, o2 + j, none⟩) hg2).trans (hy.out j hlt)
      have E1 : Hid (xs.getD j 0 = ys.getD j 0 → xs.take (j + 1) = ys.take (j + 1)) := fun e => by
        rw [List.take_succ_eq_append_getElem (by omega), List.take_succ_eq_append_getElem (by omega), he.out]
        simp only [List.getD_eq_getElem?_getD, List.getElem?_eq_getElem (show j < xs.length by omega), List.getElem?_eq_getElem (show j < ys.length by omega), Option.getD_some] at e
        rw [e]
      have E2 : Hid (xs.getD j 0 ≠ ys.getD j 0 → decide (xs = ys) = false) := fun e => decide_eq_false (fun e2 => e (by rw [e2]))
      generalize xs.getD j 0 = p at *
      generalize ys.getD j 0 = q at *
      go_upto_region 6 with fail
      have hx2 : wr.drew.cell? ⟨g, o + j, none⟩ = some (.int .i64 p) := hx1
      have hy2 : wr.drew.cell? ⟨g2, o2 + j, none⟩ = some (.int .i64 q) := hy1
      refine plan_region [(0, true), (1, true), (2, true), (3, true), (4, true), (5, true), (6, true), (7, true), (8, true)] (fun w' => w'.cell? ⟨g, o + j, none⟩ = some (.int .i64 p) ∧ w'.cell? ⟨g2, o2 + j, none⟩ = some (.int .i64 q)) [] rfl (by kernel_rfl) (fun _ _ d _ _ h => by cases d <;> exact h) ?_
      refine plan_v (i := 0) (N := (some 17)) (v := ?v6x0) (a' := ?b6x0) rfl rfl ⟨hx2, hy2⟩ (by rfl) ?hy6x0 ?ha6x0 ?_
      case hy6x0 =>
        intro w' hS'
        go_simp
        with_reducible rfl
      case ha6x0 =>
        simp only [Act.put, List.setIfInBounds_toArray, List.set_cons_zero, List.set_cons_succ]
        rfl
      refine plan_v (i := 1) (N := (some 18)) (v := ?v6x1) (a' := ?b6x1) rfl rfl ⟨hx2, hy2⟩ (by rfl) ?hy6x1 ?ha6x1 ?_
      case hy6x1 =>
        intro w' hS'
        go_simp
        with_reducible rfl
      case ha6x1 =>
        simp only [Act.put, List.setIfInBounds_toArray, List.set_cons_zero, List.set_cons_succ]
        rfl
      refine plan_v (i := 2) (N := (some 19)) (v := ?v6x2) (a' := ?b6x2) rfl rfl ⟨hx2, hy2⟩ (by rfl) ?hy6x2 ?ha6x2 ?_
      case hy6x2 =>
        intro w' hS'
        go_simp
        with_reducible rfl
      case ha6x2 =>
        simp only [Act.put, List.setIfInBounds_toArray, List.set_cons_zero, List.set_cons_succ]
        rfl
      refine plan_v (i := 3) (N := (some 20)) (v := ?v6x3) (a' := ?b6x3) rfl rfl ⟨hx2, hy2⟩ (by rfl) ?hy6x3 ?ha6x3 ?_
      case hy6x3 =>
        intro w' hS'
        have f0 := hS'.1
        go_simp
        with_reducible rfl
      case ha6x3 =>
        simp only [Act.put, List.setIfInBounds_toArray, List.set_cons_zero, List.set_cons_succ]
        rfl
      refine plan_v (i := 4) (N := (some 21)) (v := ?v6x4) (a' := ?b6x4) rfl rfl ⟨hx2, hy2⟩ (by rfl) ?hy6x4 ?ha6x4 ?_
      case hy6x4 =>
        intro w' hS'
        go_simp
        with_reducible rfl
      case ha6x4 =>
        simp only [Act.put, List.setIfInBounds_toArray, List.set_cons_zero, List.set_cons_succ]
        rfl
      refine plan_v (i := 5) (N := (some 22)) (v := ?v6x5) (a' := ?b6x5) rfl rfl ⟨hx2, hy2⟩ (by rfl) ?hy6x5 ?ha6x5 ?_
      case hy6x5 =>
        intro w' hS'
        go_simp
        with_reducible rfl
      case ha6x5 =>
        simp only [Act.put, List.setIfInBounds_toArray, List.set_cons_zero, List.set_cons_succ]
        rfl
      refine plan_v (i := 6) (N := (some 23)) (v := ?v6x6) (a' := ?b6x6) rfl rfl ⟨hx2, hy2⟩ (by rfl) ?hy6x6 ?ha6x6 ?_
      case hy6x6 =>
        intro w' hS'
        go_simp
        with_reducible rfl
      case ha6x6 =>
        simp only [Act.put, List.setIfInBounds_toArray, List.set_cons_zero, List.set_cons_succ]
        rfl
      refine plan_v (i := 7) (N := (some 24)) (v := ?v6x7) (a' := ?b6x7) rfl rfl ⟨hx2, hy2⟩ (by rfl) ?hy6x7 ?ha6x7 ?_
      case hy6x7 =>
        intro w' hS'
        have f0 := hS'.2
        go_simp
        with_reducible rfl
      case ha6x7 =>
        simp only [Act.put, List.setIfInBounds_toArray, List.set_cons_zero, List.set_cons_succ]
        rfl
      refine plan_v (i := 8) (N := (some 25)) (v := ?v6x8) (a' := ?b6x8) rfl rfl ⟨hx2, hy2⟩ (by rfl) ?hy6x8 ?ha6x8 ?_
      case hy6x8 =>
        intro w' hS'
        go_simp
        with_reducible rfl
      case ha6x8 =>
        simp only [Act.put, List.setIfInBounds_toArray, List.set_cons_zero, List.set_cons_succ]
        rfl
      refine plan_done ?_
      by_cases hpq : p = q
      · have e := E1.out hpq
        subst hpq
        have he' := hide e
        have hb' := hide (show Below w.heap.size w wr.drew from hB.out.drew)
        clear e
        go_wp2_with fail
        go_roundw
        case rel => exact ⟨j + 1, by omega, by go_num, he', hb'⟩
        case measure => simp [intOf]; omega
      · have hb : (p != q) = true := bne_iff_ne.2 hpq
        have hf := hide (E2.out hpq)
        have hb' := hide (show Below w.heap.size w wr.drew from hB.out.drew)
        go_wp2_with fail
        go_ret
        exact ⟨by rw [hf.out]; rfl, hb'.out⟩
    · obtain rfl : j = n := by omega
      have hd : Hid (decide (xs = ys) = true) := decide_eq_true (by
        have := he.out
        rwa [List.take_of_length_le (by omega), List.take_of_length_le (by omega)] at this)
      go_wp2_with fail
      go_ret
      exact ⟨by rw [hd.out]; rfl, hB.out⟩

end Go.Proofs.Ytodlpofpeoiedaa

/-
  The document's Row of two rows without a number.
-/
namespace Go.Proofs.Ytodlpofpeoiedaa
open Go.RowKit Go.Sort

set_option maxHeartbeats 1600000 in
set_option maxRecDepth 100000 in
theorem row_none (a1 a2 : Option Addr) (c1 c2 : Nat) (w : World) :
    Calls Try.prog 30 #[.slice a1 0 c1, .slice a2 0 c2] w fun e w' => e = .returned (.bool true) ∧ Below w.heap.size w w' := by
  go_enter Try.func30, Try.ntmps30
  go_wp2_with fail
  refine wp_loop_rounds 1 ?_
  rw [rounds_succ]
  go_wp2_with fail
  go_ret
  exact ⟨rfl, Below.refl _ _⟩

end Go.Proofs.Ytodlpofpeoiedaa

/-
  FormatBytes: the play ahead of it (miradorlaw13.works).
-/
namespace Go.Proofs.Ytodlpofpeoiedaa
open Go.RowKit

set_option maxHeartbeats 400000 in
theorem rstandard_any (w : World) : Calls Try.prog 22 #[] w fun e w' => e = .returned (.agg #[.int .i64 32, .int .i64 24, .bool false, .bool true, .int .i64 255, .int .i64 255, .int .i64 255, .int .i64 16, .int .i64 8, .int .i64 0]) ∧ Below w.heap.size w w' := by
  go_enter Try.func22, Try.ntmps22
  go_wp2
  go_outline
  exact bodyPost_ret (v := .agg #[.int .i64 32, .int .i64 24, .bool false, .bool true, .int .i64 255, .int .i64 255, .int .i64 255, .int .i64 16, .int .i64 8, .int .i64 0]) (by simp [results, Try.results22, go_sem]) rfl ⟨rfl, (Below.refl _ _).alloc (Nat.le_refl _) _⟩

set_option maxHeartbeats 400000 in
theorem high_any (w : World) : Calls Try.prog 71 #[] w fun e w' => e = .returned (.agg #[.int .i64 16, .int .i64 16, .bool false, .bool true, .int .i64 31, .int .i64 63, .int .i64 31, .int .i64 11, .int .i64 5, .int .i64 0]) ∧ Below w.heap.size w w' := by
  go_enter Try.func71, Try.ntmps71
  go_wp2
  go_outline
  exact bodyPost_ret (v := .agg #[.int .i64 16, .int .i64 16, .bool false, .bool true, .int .i64 31, .int .i64 63, .int .i64 31, .int .i64 11, .int .i64 5, .int .i64 0]) (by simp [results, Try.results71, go_sem]) rfl ⟨rfl, (Below.refl _ _).alloc (Nat.le_refl _) _⟩

def highF : Fmt := ⟨16, 16, false, true, 31, 63, 31, 11, 5, 0⟩
def standF : Fmt := ⟨32, 24, false, true, 255, 255, 255, 16, 8, 0⟩
theorem high_ok : validB highF = true := by kernel_rfl
theorem stand_ok : validB standF = true := by kernel_rfl
theorem high_val : valV highF 16744448 = 64512 := by kernel_rfl
theorem high_quant : quantV highF 16744448 = 16744960 := by kernel_rfl
theorem stand_quant : quantV standF 1193046 = 1193046 := by kernel_rfl
theorem high_bytes : bytesF highF = ⟨#[16, 16, 0, 1, 0, 31, 0, 63, 0, 31, 11, 5, 0, 0, 0, 0]⟩ := by kernel_rfl
theorem high_parseE : parseE ⟨#[16, 16, 0, 1, 0, 31, 0, 63, 0, 31, 11, 5, 0, 0, 0, 0]⟩ = 0 := by kernel_rfl
theorem high_parse : parseF ⟨#[16, 16, 0, 1, 0, 31, 0, 63, 0, 31, 11, 5, 0, 0, 0, 0]⟩ = highF := by
  have : rawF ⟨#[16, 16, 0, 1, 0, 31, 0, 63, 0, 31, 11, 5, 0, 0, 0, 0]⟩ = highF := by kernel_rfl
  unfold parseF
  rw [high_parseE, this]
  rfl

set_option maxHeartbeats 1600000 in
set_option maxRecDepth 100000 in
theorem works14_walk (S : ByteArray) (w : World)
    (K19 : Hid (∀ w, Calls Try.prog 19 #[.agg #[.int .i64 16, .int .i64 16, .bool false, .bool true, .int .i64 31, .int .i64 63, .int .i64 31, .int .i64 11, .int .i64 5, .int .i64 0]] w fun e w' => e = .returned (.string S) ∧ Below w.heap.size w w'))
    (K15 : Hid (∀ w, Calls Try.prog 15 #[.string S] w fun e w' => e = .returned (.tuple #[.agg #[.int .i64 16, .int .i64 16, .bool false, .bool true, .int .i64 31, .int .i64 63, .int .i64 31, .int .i64 11, .int .i64 5, .int .i64 0], .int .i64 0]) ∧ Below w.heap.size w w'))
    (K17 : Hid (∀ w, Calls Try.prog 17 #[.agg #[.int .i64 16, .int .i64 16, .bool false, .bool true, .int .i64 31, .int .i64 63, .int .i64 31, .int .i64 11, .int .i64 5, .int .i64 0]] w fun e w' => e = .returned (.bool true) ∧ Below w.heap.size w w'))
    (K39 : Hid (∀ w, Calls Try.prog 39 #[.agg #[.int .i64 16, .int .i64 16, .bool false, .bool true, .int .i64 31, .int .i64 63, .int .i64 31, .int .i64 11, .int .i64 5, .int .i64 0], .int .i64 16744448] w fun e w' => e = .returned (.int .i64 64512) ∧ Below w.heap.size w w'))
    (K28 : Hid (∀ w, Calls Try.prog 28 #[.agg #[.int .i64 16, .int .i64 16, .bool false, .bool true, .int .i64 31, .int .i64 63, .int .i64 31, .int .i64 11, .int .i64 5, .int .i64 0], .int .i64 16744448] w fun e w' => e = .returned (.int .i64 16744960) ∧ Below w.heap.size w w'))
    (K29 : Hid (∀ w, Calls Try.prog 28 #[.agg #[.int .i64 32, .int .i64 24, .bool false, .bool true, .int .i64 255, .int .i64 255, .int .i64 255, .int .i64 16, .int .i64 8, .int .i64 0], .int .i64 1193046] w fun e w' => e = .returned (.int .i64 1193046) ∧ Below w.heap.size w w')) :
    Calls Try.prog 14 #[] w fun e w' => e = .returned (.bool true) ∧ Below w.heap.size w w' := by
  go_enter Try.func14, Try.ntmps14
  go_wp2_with fail
  refine (high_any _).mono ?_
  rintro e w1 ⟨rfl, hb1⟩
  have B1 := hide hb1
  clear hb1
  have hz1 := B1.out.size
  go_wp2_with fail
  refine (K19.out _).mono ?_
  rintro e w2 ⟨rfl, hb2⟩
  have F2 := hide ((Blk.new w1 23 #[.int .i64 16, .int .i64 16, .bool false, .bool true, .int .i64 31, .int .i64 63, .int .i64 31, .int .i64 11, .int .i64 5, .int .i64 0]).below hb2)
  have B2 := hide ((B1.out.alloc B1.out.size _).trans (hb2.mono (by rw [World.size_alloc]; exact Nat.le_succ_of_le B1.out.size)))
  have hz2 := F2.out.lt
  clear hb2
  go_wp2_with fail
  refine (K15.out _).mono ?_
  rintro e w3 ⟨rfl, hb3⟩
  have F3 := hide (F2.out.below hb3)
  have B3 := hide (B2.out.trans (hb3.mono B2.out.size))
  have hz3 := F3.out.lt
  clear hb3
  have g0 : w3.cell? ⟨w1.heap.size, 0, none⟩ = some (.int .i64 16) := F3.out.cell 0
  have p0 : w3.frozen? ⟨w1.heap.size, 0, none⟩ = false := F3.out.fr 0
  have g1 : w3.cell? ⟨w1.heap.size, 1, none⟩ = some (.int .i64 16) := F3.out.cell 1
  have p1 : w3.frozen? ⟨w1.heap.size, 1, none⟩ = false := F3.out.fr 1
  have g2 : w3.cell? ⟨w1.heap.size, 2, none⟩ = some (.bool false) := F3.out.cell 2
  have p2 : w3.frozen? ⟨w1.heap.size, 2, none⟩ = false := F3.out.fr 2
  have g3 : w3.cell? ⟨w1.heap.size, 3, none⟩ = some (.bool true) := F3.out.cell 3
  have p3 : w3.frozen? ⟨w1.heap.size, 3, none⟩ = false := F3.out.fr 3
  have g4 : w3.cell? ⟨w1.heap.size, 4, none⟩ = some (.int .i64 31) := F3.out.cell 4
  have p4 : w3.frozen? ⟨w1.heap.size, 4, none⟩ = false := F3.out.fr 4
  have g5 : w3.cell? ⟨w1.heap.size, 5, none⟩ = some (.int .i64 63) := F3.out.cell 5
  have p5 : w3.frozen? ⟨w1.heap.size, 5, none⟩ = false := F3.out.fr 5
  have g6 : w3.cell? ⟨w1.heap.size, 6, none⟩ = some (.int .i64 31) := F3.out.cell 6
  have p6 : w3.frozen? ⟨w1.heap.size, 6, none⟩ = false := F3.out.fr 6
  have g7 : w3.cell? ⟨w1.heap.size, 7, none⟩ = some (.int .i64 11) := F3.out.cell 7
  have p7 : w3.frozen? ⟨w1.heap.size, 7, none⟩ = false := F3.out.fr 7
  have g8 : w3.cell? ⟨w1.heap.size, 8, none⟩ = some (.int .i64 5) := F3.out.cell 8
  have p8 : w3.frozen? ⟨w1.heap.size, 8, none⟩ = false := F3.out.fr 8
  have g9 : w3.cell? ⟨w1.heap.size, 9, none⟩ = some (.int .i64 0) := F3.out.cell 9
  have p9 : w3.frozen? ⟨w1.heap.size, 9, none⟩ = false := F3.out.fr 9
  go_wp2_with fail
  refine (K17.out _).mono ?_
  rintro e w4 ⟨rfl, hb4⟩
  have F4 := hide ((F3.out.alloc _).below hb4)
  have G4 := hide ((Blk.new w3 23 #[.int .i64 16, .int .i64 16, .bool false, .bool true, .int .i64 31, .int .i64 63, .int .i64 31, .int .i64 11, .int .i64 5, .int .i64 0]).below hb4)
  have B4 := hide ((B3.out.alloc B3.out.size _).trans (hb4.mono (by rw [World.size_alloc]; exact Nat.le_succ_of_le B3.out.size)))
  clear hb4
  have f40 : w4.cell? ⟨w1.heap.size, 0, none⟩ = some (.int .i64 16) := F4.out.cell 0
  have h40 : w4.frozen? ⟨w1.heap.size, 0, none⟩ = false := F4.out.fr 0
  have f41 : w4.cell? ⟨w1.heap.size, 1, none⟩ = some (.int .i64 16) := F4.out.cell 1
  have h41 : w4.frozen? ⟨w1.heap.size, 1, none⟩ = false := F4.out.fr 1
  have f42 : w4.cell? ⟨w1.heap.size, 2, none⟩ = some (.bool false) := F4.out.cell 2
  have h42 : w4.frozen? ⟨w1.heap.size, 2, none⟩ = false := F4.out.fr 2
  have f43 : w4.cell? ⟨w1.heap.size, 3, none⟩ = some (.bool true) := F4.out.cell 3
  have h43 : w4.frozen? ⟨w1.heap.size, 3, none⟩ = false := F4.out.fr 3
  have f44 : w4.cell? ⟨w1.heap.size, 4, none⟩ = some (.int .i64 31) := F4.out.cell 4
  have h44 : w4.frozen? ⟨w1.heap.size, 4, none⟩ = false := F4.out.fr 4
  have f45 : w4.cell? ⟨w1.heap.size, 5, none⟩ = some (.int .i64 63) := F4.out.cell 5
  have h45 : w4.frozen? ⟨w1.heap.size, 5, none⟩ = false := F4.out.fr 5
  have f46 : w4.cell? ⟨w1.heap.size, 6, none⟩ = some (.int .i64 31) := F4.out.cell 6
  have h46 : w4.frozen? ⟨w1.heap.size, 6, none⟩ = false := F4.out.fr 6
  have f47 : w4.cell? ⟨w1.heap.size, 7, none⟩ = some (.int .i64 11) := F4.out.cell 7
  have h47 : w4.frozen? ⟨w1.heap.size, 7, none⟩ = false := F4.out.fr 7
  have f48 : w4.cell? ⟨w1.heap.size, 8, none⟩ = some (.int .i64 5) := F4.out.cell 8
  have h48 : w4.frozen? ⟨w1.heap.size, 8, none⟩ = false := F4.out.fr 8
  have f49 : w4.cell? ⟨w1.heap.size, 9, none⟩ = some (.int .i64 0) := F4.out.cell 9
  have h49 : w4.frozen? ⟨w1.heap.size, 9, none⟩ = false := F4.out.fr 9
  go_wp2_with fail
  refine (K39.out _).mono ?_
  rintro e w5 ⟨rfl, hb5⟩
  have F5 := hide (F4.out.below hb5)
  have G5 := hide (G4.out.below hb5)
  have B5 := hide (B4.out.trans (hb5.mono B4.out.size))
  clear hb5
  have f50 : w5.cell? ⟨w1.heap.size, 0, none⟩ = some (.int .i64 16) := F5.out.cell 0
  have h50 : w5.frozen? ⟨w1.heap.size, 0, none⟩ = false := F5.out.fr 0
  have f51 : w5.cell? ⟨w1.heap.size, 1, none⟩ = some (.int .i64 16) := F5.out.cell 1
  have h51 : w5.frozen? ⟨w1.heap.size, 1, none⟩ = false := F5.out.fr 1
  have f52 : w5.cell? ⟨w1.heap.size, 2, none⟩ = some (.bool false) := F5.out.cell 2
  have h52 : w5.frozen? ⟨w1.heap.size, 2, none⟩ = false := F5.out.fr 2
  have f53 : w5.cell? ⟨w1.heap.size, 3, none⟩ = some (.bool true) := F5.out.cell 3
  have h53 : w5.frozen? ⟨w1.heap.size, 3, none⟩ = false := F5.out.fr 3
  have f54 : w5.cell? ⟨w1.heap.size, 4, none⟩ = some (.int .i64 31) := F5.out.cell 4
  have h54 : w5.frozen? ⟨w1.heap.size, 4, none⟩ = false := F5.out.fr 4
  have f55 : w5.cell? ⟨w1.heap.size, 5, none⟩ = some (.int .i64 63) := F5.out.cell 5
  have h55 : w5.frozen? ⟨w1.heap.size, 5, none⟩ = false := F5.out.fr 5
  have f56 : w5.cell? ⟨w1.heap.size, 6, none⟩ = some (.int .i64 31) := F5.out.cell 6
  have h56 : w5.frozen? ⟨w1.heap.size, 6, none⟩ = false := F5.out.fr 6
  have f57 : w5.cell? ⟨w1.heap.size, 7, none⟩ = some (.int .i64 11) := F5.out.cell 7
  have h57 : w5.frozen? ⟨w1.heap.size, 7, none⟩ = false := F5.out.fr 7
  have f58 : w5.cell? ⟨w1.heap.size, 8, none⟩ = some (.int .i64 5) := F5.out.cell 8
  have h58 : w5.frozen? ⟨w1.heap.size, 8, none⟩ = false := F5.out.fr 8
  have f59 : w5.cell? ⟨w1.heap.size, 9, none⟩ = some (.int .i64 0) := F5.out.cell 9
  have h59 : w5.frozen? ⟨w1.heap.size, 9, none⟩ = false := F5.out.fr 9
  go_wp2_with fail
  refine (K28.out _).mono ?_
  rintro e w6 ⟨rfl, hb6⟩
  have F6 := hide (F5.out.below hb6)
  have G6 := hide (G5.out.below hb6)
  have B6 := hide (B5.out.trans (hb6.mono B5.out.size))
  clear hb6
  have f60 : w6.cell? ⟨w1.heap.size, 0, none⟩ = some (.int .i64 16) := F6.out.cell 0
  have h60 : w6.frozen? ⟨w1.heap.size, 0, none⟩ = false := F6.out.fr 0
  have f61 : w6.cell? ⟨w1.heap.size, 1, none⟩ = some (.int .i64 16) := F6.out.cell 1
  have h61 : w6.frozen? ⟨w1.heap.size, 1, none⟩ = false := F6.out.fr 1
  have f62 : w6.cell? ⟨w1.heap.size, 2, none⟩ = some (.bool false) := F6.out.cell 2
  have h62 : w6.frozen? ⟨w1.heap.size, 2, none⟩ = false := F6.out.fr 2
  have f63 : w6.cell? ⟨w1.heap.size, 3, none⟩ = some (.bool true) := F6.out.cell 3
  have h63 : w6.frozen? ⟨w1.heap.size, 3, none⟩ = false := F6.out.fr 3
  have f64 : w6.cell? ⟨w1.heap.size, 4, none⟩ = some (.int .i64 31) := F6.out.cell 4
  have h64 : w6.frozen? ⟨w1.heap.size, 4, none⟩ = false := F6.out.fr 4
  have f65 : w6.cell? ⟨w1.heap.size, 5, none⟩ = some (.int .i64 63) := F6.out.cell 5
  have h65 : w6.frozen? ⟨w1.heap.size, 5, none⟩ = false := F6.out.fr 5
  have f66 : w6.cell? ⟨w1.heap.size, 6, none⟩ = some (.int .i64 31) := F6.out.cell 6
  have h66 : w6.frozen? ⟨w1.heap.size, 6, none⟩ = false := F6.out.fr 6
  have f67 : w6.cell? ⟨w1.heap.size, 7, none⟩ = some (.int .i64 11) := F6.out.cell 7
  have h67 : w6.frozen? ⟨w1.heap.size, 7, none⟩ = false := F6.out.fr 7
  have f68 : w6.cell? ⟨w1.heap.size, 8, none⟩ = some (.int .i64 5) := F6.out.cell 8
  have h68 : w6.frozen? ⟨w1.heap.size, 8, none⟩ = false := F6.out.fr 8
  have f69 : w6.cell? ⟨w1.heap.size, 9, none⟩ = some (.int .i64 0) := F6.out.cell 9
  have h69 : w6.frozen? ⟨w1.heap.size, 9, none⟩ = false := F6.out.fr 9
  have f70 : w6.cell? ⟨w3.heap.size, 0, none⟩ = some (.int .i64 16) := G6.out.cell 0
  have h70 : w6.frozen? ⟨w3.heap.size, 0, none⟩ = false := G6.out.fr 0
  have f71 : w6.cell? ⟨w3.heap.size, 1, none⟩ = some (.int .i64 16) := G6.out.cell 1
  have h71 : w6.frozen? ⟨w3.heap.size, 1, none⟩ = false := G6.out.fr 1
  have f72 : w6.cell? ⟨w3.heap.size, 2, none⟩ = some (.bool false) := G6.out.cell 2
  have h72 : w6.frozen? ⟨w3.heap.size, 2, none⟩ = false := G6.out.fr 2
  have f73 : w6.cell? ⟨w3.heap.size, 3, none⟩ = some (.bool true) := G6.out.cell 3
  have h73 : w6.frozen? ⟨w3.heap.size, 3, none⟩ = false := G6.out.fr 3
  have f74 : w6.cell? ⟨w3.heap.size, 4, none⟩ = some (.int .i64 31) := G6.out.cell 4
  have h74 : w6.frozen? ⟨w3.heap.size, 4, none⟩ = false := G6.out.fr 4
  have f75 : w6.cell? ⟨w3.heap.size, 5, none⟩ = some (.int .i64 63) := G6.out.cell 5
  have h75 : w6.frozen? ⟨w3.heap.size, 5, none⟩ = false := G6.out.fr 5
  have f76 : w6.cell? ⟨w3.heap.size, 6, none⟩ = some (.int .i64 31) := G6.out.cell 6
  have h76 : w6.frozen? ⟨w3.heap.size, 6, none⟩ = false := G6.out.fr 6
  have f77 : w6.cell? ⟨w3.heap.size, 7, none⟩ = some (.int .i64 11) := G6.out.cell 7
  have h77 : w6.frozen? ⟨w3.heap.size, 7, none⟩ = false := G6.out.fr 7
  have f78 : w6.cell? ⟨w3.heap.size, 8, none⟩ = some (.int .i64 5) := G6.out.cell 8
  have h78 : w6.frozen? ⟨w3.heap.size, 8, none⟩ = false := G6.out.fr 8
  have f79 : w6.cell? ⟨w3.heap.size, 9, none⟩ = some (.int .i64 0) := G6.out.cell 9
  have h79 : w6.frozen? ⟨w3.heap.size, 9, none⟩ = false := G6.out.fr 9
  go_wp2_with fail
  refine (standard_any _).mono ?_
  rintro e w7 ⟨rfl, hb7⟩
  have B7 := hide (B6.out.trans (hb7.mono B6.out.size))
  clear hb7
  go_wp2_with fail
  refine (K29.out _).mono ?_
  rintro e w8 ⟨rfl, hb8⟩
  have B8 := hide (B7.out.trans (hb8.mono B7.out.size))
  clear hb8
  go_wp2_with fail
  go_ret
  exact ⟨rfl, B8.out⟩

/-- The play ahead of FormatBytes goes well. -/
theorem works14_any (w : World) : Calls Try.prog 14 #[] w fun e w' => e = .returned (.bool true) ∧ Below w.heap.size w w' := by
  refine works14_walk ⟨#[16, 16, 0, 1, 0, 31, 0, 63, 0, 31, 11, 5, 0, 0, 0, 0]⟩ w (fun w => ?_) (fun w => ?_) (fun w => ?_) (fun w => ?_) (fun w => ?_) (fun w => ?_)
  · have h := fbytes_any highF w
    rw [high_bytes] at h
    exact h
  · have h := parse_any ⟨#[16, 16, 0, 1, 0, 31, 0, 63, 0, 31, 11, 5, 0, 0, 0, 0]⟩ w (by decide)
    rw [high_parse, high_parseE] at h
    exact h
  · have h := valid_any highF w (by decide) (by decide) (by decide)
    rw [high_ok] at h
    exact h
  · have h := value_any highF 16744448 w high_ok
    rw [high_val] at h
    exact h
  · have h := quant_any highF 16744448 w high_ok
    rw [high_quant] at h
    exact h
  · have h := quant_any standF 1193046 w stand_ok
    rw [stand_quant] at h
    exact h

end Go.Proofs.Ytodlpofpeoiedaa
