/-
  The colours of bytes: plain.RawOf.
-/
import Derived.Test.YtodlpofpeoiedaaBE
import Derived.Test.YtodlpofpeoiedaaQ4
namespace Go.Proofs.Ytodlpofpeoiedaa
open Go.RowKit Go.Sort

theorem info3 : (Try.prog.info? 3).map (fun i => (i.zero, i.size, i.bytes)) = some (some (.int .i64 0), 1, 8) := by kernel_rfl

def szOf : Value → Nat
  | .string t => t.size
  | _ => 0

theorem own_base {w : World} {base base' e sz n : Nat} {v : Value} {xs : List Value} (h : w.ownsRow base' e sz v n xs) (hb : base ≤ base') : w.ownsRow base e sz v n xs := by
  refine ⟨h.1, h.2.imp id ?_⟩
  rintro ⟨g, cap, cur, h1, h2, h3⟩
  exact ⟨g, cap, cur, h1, Nat.le_trans hb h2, h3⟩

theorem own_below {w w' : World} {base e sz n : Nat} {v : Value} {xs : List Value} (h : w.ownsRow base e sz v n xs) (hb : Below w.heap.size w w') : w'.ownsRow base e sz v n xs := by
  refine h.kept (row := none) ⟨hb.os, hb.tape, hb.output, hb.size, fun k hk _ => hb.block k hk⟩ ?_
  by_cases hv : v.ownBlock = none
  · exact .inl hv
  · exact .inr hv

set_option maxHeartbeats 1600000 in
set_option maxRecDepth 100000 in
theorem rawOf_walk (f : Fmt) (a b p : Int) (k m n : Nat) (s : ByteArray) (t : Nat → ByteArray) (x y u : Nat → Int) (w : World)
    (hp : a * b = p) (hp0 : 0 ≤ p ∧ p ≤ 16777216) (hn : p * k = n) (hn1 : (n : Int) ≤ 67108864) (hs : n ≤ s.size) (hs2 : s.size ≤ 1099511627776) (hk : 1 ≤ k ∧ k ≤ 4)
    (ht0 : s.extract 0 n = t 0) (hts : ∀ j, j ≤ m → (t j).size = (m - j) * k) (htn : ∀ j, j < m → (t j).extract k (t j).size = t (j + 1)) (hm : m ≤ 16777216)
    (K24 : Hid (∀ w, Calls Try.prog 24 #[fmtV f, .int .i64 a, .int .i64 b] w fun e w' => e = .returned (.bool true) ∧ Below w.heap.size w w'))
    (K27 : Hid (∀ w, Calls Try.prog 27 #[fmtV f] w fun e w' => e = .returned (.int .i64 k) ∧ Below w.heap.size w w'))
    (K41 : Hid (∀ j, j < m → ∀ w, Calls Try.prog 41 #[fmtV f, .string (t j)] w fun e w' => e = .returned (.tuple #[.int .i64 (x j), .int .i64 (y j)]) ∧ Below w.heap.size w w'))
    (K40 : Hid (∀ j, j < m → ∀ w, Calls Try.prog 40 #[fmtV f, .int .i64 (x j)] w fun e w' => e = .returned (.int .i64 (u j)) ∧ Below w.heap.size w w')) :
    Calls Try.prog 26 #[fmtV f, .int .i64 a, .int .i64 b, .string s] w fun e w' => ∃ v, e = .returned (.tuple #[v, .int .i64 n, .int .i64 0]) ∧ w'.ownsRow w.heap.size 3 1 v m (((List.range m).map u).map (Value.int .i64)) ∧ Below w.heap.size w w' := by
  obtain ⟨i0, hi, hz0, hz1, hz2⟩ := info_parts info3
  have F0 := hide (Blk.new w 23 #[.int .i64 f.bits, .int .i64 f.depth, .bool f.big, .bool f.tru, .int .i64 f.rm, .int .i64 f.gm, .int .i64 f.bm, .int .i64 f.rs, .int .i64 f.gs, .int .i64 f.bs])
  have B0 := hide ((Below.refl w.heap.size w).alloc (Nat.le_refl _) (.cells #[.int .i64 f.bits, .int .i64 f.depth, .bool f.big, .bool f.tru, .int .i64 f.rm, .int .i64 f.gm, .int .i64 f.bm, .int .i64 f.rs, .int .i64 f.gs, .int .i64 f.bs] 23))
  go_enter Try.func26, Try.ntmps26
  go_upto_region 1 with fail
  generalize w.alloc (.cells #[.int .i64 f.bits, .int .i64 f.depth, .bool f.big, .bool f.tru, .int .i64 f.rm, .int .i64 f.gm, .int .i64 f.bm, .int .i64 f.rs, .int .i64 f.gs, .int .i64 f.bs] 23) = w0 at *
  have f0 : w0.cell? ⟨w.heap.size, 0, none⟩ = some (.int .i64 f.bits) := F0.out.cell 0
  have f1 : w0.cell? ⟨w.heap.size, 1, none⟩ = some (.int .i64 f.depth) := F0.out.cell 1
  have f2 : w0.cell? ⟨w.heap.size, 2, none⟩ = some (.bool f.big) := F0.out.cell 2
  have f3 : w0.cell? ⟨w.heap.size, 3, none⟩ = some (.bool f.tru) := F0.out.cell 3
  have f4 : w0.cell? ⟨w.heap.size, 4, none⟩ = some (.int .i64 f.rm) := F0.out.cell 4
  have f5 : w0.cell? ⟨w.heap.size, 5, none⟩ = some (.int .i64 f.gm) := F0.out.cell 5
  have f6 : w0.cell? ⟨w.heap.size, 6, none⟩ = some (.int .i64 f.bm) := F0.out.cell 6
  have f7 : w0.cell? ⟨w.heap.size, 7, none⟩ = some (.int .i64 f.rs) := F0.out.cell 7
  have f8 : w0.cell? ⟨w.heap.size, 8, none⟩ = some (.int .i64 f.gs) := F0.out.cell 8
  have f9 : w0.cell? ⟨w.heap.size, 9, none⟩ = some (.int .i64 f.bs) := F0.out.cell 9
  go_wp2_with fail
  refine (K24.out _).mono ?_
  rintro e w1 ⟨rfl, hb1⟩
  have F1 := hide (F0.out.below hb1)
  have B1 := hide (B0.out.trans (hb1.mono B0.out.size))
  clear hb1
  go_wp2_with fail
  refine (new_any _ _).mono ?_
  rintro e w2 ⟨rfl, hc2, hb2, hz2'⟩
  have F2 := hide (F1.out.below hb2)
  have B2 := hide (B1.out.trans (hb2.mono B1.out.size))
  have I2 := hide hc2
  have lt1 := F1.out.lt
  clear hc2 hb2
  clear f0 f1 f2 f3 f4 f5 f6 f7 f8 f9
  have f0 : w2.cell? ⟨w.heap.size, 0, none⟩ = some (.int .i64 f.bits) := F2.out.cell 0
  have f1 : w2.cell? ⟨w.heap.size, 1, none⟩ = some (.int .i64 f.depth) := F2.out.cell 1
  have f2 : w2.cell? ⟨w.heap.size, 2, none⟩ = some (.bool f.big) := F2.out.cell 2
  have f3 : w2.cell? ⟨w.heap.size, 3, none⟩ = some (.bool f.tru) := F2.out.cell 3
  have f4 : w2.cell? ⟨w.heap.size, 4, none⟩ = some (.int .i64 f.rm) := F2.out.cell 4
  have f5 : w2.cell? ⟨w.heap.size, 5, none⟩ = some (.int .i64 f.gm) := F2.out.cell 5
  have f6 : w2.cell? ⟨w.heap.size, 6, none⟩ = some (.int .i64 f.bm) := F2.out.cell 6
  have f7 : w2.cell? ⟨w.heap.size, 7, none⟩ = some (.int .i64 f.rs) := F2.out.cell 7
  have f8 : w2.cell? ⟨w.heap.size, 8, none⟩ = some (.int .i64 f.gs) := F2.out.cell 8
  have f9 : w2.cell? ⟨w.heap.size, 9, none⟩ = some (.int .i64 f.bs) := F2.out.cell 9
  go_wp2_with fail
  refine (K27.out _).mono ?_
  rintro e w3 ⟨rfl, hb3⟩
  have F3 := hide (F2.out.below hb3)
  have B3 := hide (B2.out.trans (hb3.mono B2.out.size))
  have I3 := hide (I2.out.keep (hb3.mono (by omega)))
  clear hb3
  go_wp2_with fail
  obtain ⟨ce, co, _⟩ := Cu.step (s := s) (i := 0) (n := n) (by omega)
  rw [Nat.zero_add] at ce co
  have n1 : w.heap.size ≠ w1.heap.size := by omega
  refine (bytes_at _ ⟨s, 0, 0⟩ ⟨s, n, 0⟩ n (t 0) _ (by omega) I3.out (hide ⟨by simp, hs2⟩) (hide ce.symm) (hide (ht0.symm.trans co.symm))).mono ?_
  rintro e w4 ⟨rfl, hc4, ho4⟩
  have F4 := hide (F3.out.only ho4 n1)
  have I4 := hide hc4
  have B4 := hide (Below.grown B3.out ho4 B3.out.size (by intro k hk; cases hk; omega))
  clear hc4 ho4 co ce
  go_wp2_with fail
  refine (err_any _ _ _ I4.out).mono ?_
  rintro e w5 ⟨rfl, rfl⟩
  clear f0 f1 f2 f3 f4 f5 f6 f7 f8 f9
  clear F0 F1 F2 F3 I2 I3 B0 B1 B2 B3
  go_wp2_with fail
  have hb4 := B4.out.size
  have lt4 := I4.out.lt
  have T1 := hide hts
  have T2 := hide htn
  clear hts htn
  go_loopw [12, 14] (fun T v wr => ∃ j : Nat, j ≤ m ∧ T = .string (t j) ∧ Hid (wr.ownsRow w4.heap.size 3 1 v j (((List.range j).map u).map (Value.int .i64))) ∧ Hid (Blk w.heap.size 23 #[.int .i64 f.bits, .int .i64 f.depth, .bool f.big, .bool f.tru, .int .i64 f.rm, .int .i64 f.gm, .int .i64 f.bm, .int .i64 f.rs, .int .i64 f.gs, .int .i64 f.bs] wr) ∧ Hid (IsCur 163 w1.heap.size ⟨s, n, 0⟩ wr) ∧ Hid (Below w.heap.size w wr) ∧ w4.heap.size ≤ wr.heap.size) (fun T _ _ => szOf T)
  case atStart => exact ⟨0, by omega, rfl, hide (World.ownsRow_nil _ _ _ _), F4, I4, B4, Nat.le_refl _⟩
  case round =>
    obtain ⟨j, hj, rfl, hown, hF, hI, hB, hsz⟩ := hrel
    have hz := T1.out j hj
    by_cases hlt : j < m
    · have hx := T2.out j hlt
      have hz' := T1.out (j + 1) hlt
      have hr : k ≤ (m - j) * k := Nat.le_mul_of_pos_left k (by omega)
      have hsm : (m - j) * k ≤ 67108864 := Nat.le_trans (Nat.mul_le_mul (show m - j ≤ 16777216 by omega) hk.2) (by decide)
      have hdec : (t (j + 1)).size < (t j).size := by
        rw [hz, hz', show m - j = (m - (j + 1)) + 1 by omega, Nat.succ_mul]
        omega
      have HD := hide hdec
      clear hdec
      have c41 := hide (K41.out j hlt)
      have c40 := hide (K40.out j hlt)
      rw [hz] at hx
      generalize (m - j) * k = r at *
      have hzz : ((t j).size : Int) = r := by omega
      have hr' : 0 < r := by omega
      generalize hT : t j = T at *
      generalize hT' : t (j + 1) = T' at *
      have H1 := hide hT
      have H2 := hide hT'
      clear hT hT' hz'
      have f0 : wr.cell? ⟨w.heap.size, 0, none⟩ = some (.int .i64 f.bits) := hF.out.cell 0
      have f1 : wr.cell? ⟨w.heap.size, 1, none⟩ = some (.int .i64 f.depth) := hF.out.cell 1
      have f2 : wr.cell? ⟨w.heap.size, 2, none⟩ = some (.bool f.big) := hF.out.cell 2
      have f3 : wr.cell? ⟨w.heap.size, 3, none⟩ = some (.bool f.tru) := hF.out.cell 3
      have f4 : wr.cell? ⟨w.heap.size, 4, none⟩ = some (.int .i64 f.rm) := hF.out.cell 4
      have f5 : wr.cell? ⟨w.heap.size, 5, none⟩ = some (.int .i64 f.gm) := hF.out.cell 5
      have f6 : wr.cell? ⟨w.heap.size, 6, none⟩ = some (.int .i64 f.bm) := hF.out.cell 6
      have f7 : wr.cell? ⟨w.heap.size, 7, none⟩ = some (.int .i64 f.rs) := hF.out.cell 7
      have f8 : wr.cell? ⟨w.heap.size, 8, none⟩ = some (.int .i64 f.gs) := hF.out.cell 8
      have f9 : wr.cell? ⟨w.heap.size, 9, none⟩ = some (.int .i64 f.bs) := hF.out.cell 9
      go_wp2_with fail
      refine (c41.out _).mono ?_
      rintro e w5 ⟨rfl, hb5⟩
      have hF5 := hide (hF.out.below hb5)
      have hI5 := hide (hI.out.keep hb5)
      have hB5 := hide (hB.out.trans (hb5.mono hB.out.size))
      have hO5 := hide (own_below hown.out hb5)
      have hs5 := Nat.le_trans hsz hb5.size
      clear hb5
      clear f0 f1 f2 f3 f4 f5 f6 f7 f8 f9
      have f0 : w5.cell? ⟨w.heap.size, 0, none⟩ = some (.int .i64 f.bits) := hF5.out.cell 0
      have f1 : w5.cell? ⟨w.heap.size, 1, none⟩ = some (.int .i64 f.depth) := hF5.out.cell 1
      have f2 : w5.cell? ⟨w.heap.size, 2, none⟩ = some (.bool f.big) := hF5.out.cell 2
      have f3 : w5.cell? ⟨w.heap.size, 3, none⟩ = some (.bool f.tru) := hF5.out.cell 3
      have f4 : w5.cell? ⟨w.heap.size, 4, none⟩ = some (.int .i64 f.rm) := hF5.out.cell 4
      have f5 : w5.cell? ⟨w.heap.size, 5, none⟩ = some (.int .i64 f.gm) := hF5.out.cell 5
      have f6 : w5.cell? ⟨w.heap.size, 6, none⟩ = some (.int .i64 f.bm) := hF5.out.cell 6
      have f7 : w5.cell? ⟨w.heap.size, 7, none⟩ = some (.int .i64 f.rs) := hF5.out.cell 7
      have f8 : w5.cell? ⟨w.heap.size, 8, none⟩ = some (.int .i64 f.gs) := hF5.out.cell 8
      have f9 : w5.cell? ⟨w.heap.size, 9, none⟩ = some (.int .i64 f.bs) := hF5.out.cell 9
      go_wp2_with fail
      refine (c40.out _).mono ?_
      rintro e w6 ⟨rfl, hb6⟩
      have hF6 := hide (hF5.out.below hb6)
      have hI6 := hide (hI5.out.keep hb6)
      have hB6 := hide (hB5.out.trans (hb6.mono hB5.out.size))
      have hO6 := own_below hO5.out hb6
      have hs6 := Nat.le_trans hs5 hb6.size
      have hbw := hB6.out.size
      clear hb6
      clear f0 f1 f2 f3 f4 f5 f6 f7 f8 f9
      go_wp2_with (at_builtin; refine wpList_append_own _ rfl _ _ 32 rfl w4.heap.size 3 i0 (.int .i64 0) 1 8 Try.underlying32 hi hz0 hz1 hz2 rfl (by decide) _ _ _ rfl (hO6.alloc _) ⟨w6.heap.size, 0, none⟩ 1 1 [.int .i64 (u j)] rfl rfl ?c1 ?c2 ?c3 ?c4 ?c5 ?_)
      case c1 =>
        intro j u hj
        match j, hj with
        | 0, hj => simp at hj; subst hj; simp [Addr.add]
      case c2 => intro u hu; simp at hu; subst hu; rfl
      case c3 => unfold maxLen; omega
      case c4 => omega
      case c5 => simp; omega
      intro v' w7 hown' hgrow _
      have hne1 : ∀ q, q < w4.heap.size → some q ≠ Value.ownBlock _ := fun q hq e => absurd (hO6.lt q e.symm).1 (by omega)
      have hF7 := hide ((hgrow.block w.heap.size (by simp; omega) (hne1 _ (by omega))).trans (hF6.out.alloc (.cells #[.int .i64 (u j)] 3)))
      have hI7 := hide ((hgrow.block w1.heap.size (by simp; omega) (hne1 _ lt4)).trans (hI6.out.alloc (.cells #[.int .i64 (u j)] 3)))
      have hB7 := hide (Below.grown (hB6.out.alloc hbw (.cells #[.int .i64 (u j)] 3)) hgrow (by simp; omega) (fun q e => by have := (hO6.lt q e).1; omega))
      have hO7 := hide hown'
      have hs7 : w4.heap.size ≤ w7.heap.size := Nat.le_trans hs6 (Nat.le_trans (by simp) hgrow.size)
      clear hgrow hown' hO6 hne1
      have hF7' := hide (show Blk w.heap.size 23 #[.int .i64 f.bits, .int .i64 f.depth, .bool f.big, .bool f.tru, .int .i64 f.rm, .int .i64 f.gm, .int .i64 f.bm, .int .i64 f.rs, .int .i64 f.gs, .int .i64 f.bs] w7 from hF7.out)
      have f0 : w7.cell? ⟨w.heap.size, 0, none⟩ = some (.int .i64 f.bits) := hF7'.out.cell 0
      have f1 : w7.cell? ⟨w.heap.size, 1, none⟩ = some (.int .i64 f.depth) := hF7'.out.cell 1
      have f2 : w7.cell? ⟨w.heap.size, 2, none⟩ = some (.bool f.big) := hF7'.out.cell 2
      have f3 : w7.cell? ⟨w.heap.size, 3, none⟩ = some (.bool f.tru) := hF7'.out.cell 3
      have f4 : w7.cell? ⟨w.heap.size, 4, none⟩ = some (.int .i64 f.rm) := hF7'.out.cell 4
      have f5 : w7.cell? ⟨w.heap.size, 5, none⟩ = some (.int .i64 f.gm) := hF7'.out.cell 5
      have f6 : w7.cell? ⟨w.heap.size, 6, none⟩ = some (.int .i64 f.bm) := hF7'.out.cell 6
      have f7 : w7.cell? ⟨w.heap.size, 7, none⟩ = some (.int .i64 f.rs) := hF7'.out.cell 7
      have f8 : w7.cell? ⟨w.heap.size, 8, none⟩ = some (.int .i64 f.gs) := hF7'.out.cell 8
      have f9 : w7.cell? ⟨w.heap.size, 9, none⟩ = some (.int .i64 f.bs) := hF7'.out.cell 9
      go_wp2_with fail
      refine (K27.out _).mono ?_
      rintro e w8 ⟨rfl, hb8⟩
      have hF8 := hide (hF7'.out.below hb8)
      have hI8 := hide (IsCur.keep (T := 163) (c := ⟨s, n, 0⟩) hI7.out hb8)
      have hB8 := hide (hB7.out.trans (hb8.mono hB7.out.size))
      have hO8 := hide (own_below hO7.out hb8)
      have hs8 := Nat.le_trans hs7 hb8.size
      clear hb8
      clear f0 f1 f2 f3 f4 f5 f6 f7 f8 f9
      go_wp2_with fail
      go_roundw
      case rel =>
        refine ⟨j + 1, by omega, by rw [H2.out], hide ?_, hF8, hI8, hB8, hs8⟩
        rw [List.range_succ, List.map_append, List.map_append]
        simp only [List.map_map]
        exact hO8.out
      case measure => exact HD.out
    · obtain rfl : j = m := by omega
      rw [Nat.sub_self, Nat.zero_mul] at hz
      have HO := hown
      clear hown
      go_wp2_with fail
      refine (at_any _ _ _ hI.out).mono ?_
      rintro e w6 ⟨rfl, rfl⟩
      go_wp2_with fail
      go_ret3
      exact ⟨_, rfl, own_base HO.out hb4, hB.out⟩

end Go.Proofs.Ytodlpofpeoiedaa
