/-
  The document's Values and Colours of a row of numbers.
-/
import Derived.Test.YtodlpofpeoiedaaMJ
namespace Go.Proofs.Ytodlpofpeoiedaa
open Go.RowKit Go.Sort

theorem own_slice {w : World} {base e n : Nat} {v : Value} {xs : List Value} (h : w.ownsRow base e 1 v n xs) : ∃ a cap, v = .slice a n cap := by
  rcases h.2 with ⟨rfl, rfl⟩ | ⟨g, cap, cur, rfl, _⟩
  · exact ⟨_, _, rfl⟩
  · exact ⟨_, _, rfl⟩

set_option maxHeartbeats 3200000 in
set_option maxRecDepth 100000 in
theorem rvals_walk (f : Fmt) (a : Option Addr) (n cap : Nat) (zs : List Int) (u : Int → Int) (w : World) (hn : n ≤ 1099511627776) (hI : Hid (IntsIn w.heap.size w a n zs))
    (K93 : Hid (∀ c w, Calls Try.prog 93 #[fmtV f, .int .i64 c] w fun e w' => e = .returned (.int .i64 (u c)) ∧ Below w.heap.size w w')) :
    Calls Try.prog 33 #[fmtV f, .slice a n cap] w fun e w' => ∃ v, e = .returned v ∧ w'.ownsRow w.heap.size 3 1 v n ((zs.map u).map (Value.int .i64)) ∧ Below w.heap.size w w' := by
  obtain ⟨i0, hi, hz0, hz1, hz2⟩ := info_parts info3
  have hlz : Hid (zs.length = n) := hI.out.1
  have F0 := hide (Blk.new w 23 (fmtC f))
  have B0 := hide ((Below.refl w.heap.size w).alloc (Nat.le_refl _) (.cells (fmtC f) 23))
  have L0 : w.heap.size + 1 ≤ (w.alloc (.cells (fmtC f) 23)).heap.size := by rw [World.size_alloc]; exact Nat.le_refl _
  go_enter Try.func33, Try.ntmps33
  go_upto_region 1 with fail
  generalize w.alloc (.cells (fmtC f) 23) = w0 at *
  go_wp2_with fail
  go_loopw [5, 6] (fun v i wr => ∃ (j : Nat) (V : Value), V = v ∧ j ≤ n ∧ i = .int .i64 j ∧ Hid (wr.ownsRow (w.heap.size + 1) 3 1 V j (((zs.take j).map u).map (Value.int .i64))) ∧ Hid (Blk w.heap.size 23 (fmtC f) wr) ∧ Hid (Below w.heap.size w wr) ∧ w.heap.size + 1 ≤ wr.heap.size) (fun _ i _ => n - (intOf i).toNat)
  case atStart => exact ⟨0, _, rfl, by omega, rfl, hide (World.ownsRow_nil _ _ _ _), F0, B0, L0⟩
  case round =>
    obtain ⟨j, v, rfl, hj, rfl, hown, hF, hB, hsz⟩ := hrel
    by_cases hlt : j < n
    · obtain ⟨b, off, rfl, hblt, hcs⟩ := hI.out.2.resolve_left (by omega)
      have hx0 := hcs j hlt
      have ez : zs[j]?.getD 0 = zs[j]'(by rw [hlz.out]; exact hlt) := by rw [List.getElem?_eq_getElem (by rw [hlz.out]; exact hlt), Option.getD_some]
      have et : Hid (((zs.take (j + 1)).map u).map (Value.int .i64) = ((zs.take j).map u).map (Value.int .i64) ++ [.int .i64 (u (zs[j]?.getD 0))]) := by
        refine hide ?_
        rw [ez, List.take_succ_eq_append_getElem (by rw [hlz.out]; exact hlt), List.map_append, List.map_append]
        rfl
      have KC := hide (K93.out (zs[j]?.getD 0))
      have hx1 := hide ((hB.out.cell (p := ⟨b, off + j, none⟩) hblt).trans hx0)
      clear hx0 hcs ez
      generalize zs[j]?.getD 0 = x at *
      generalize u x = y at *
      go_wp2_with fail
      have F1 := hide (show Blk w.heap.size 23 (fmtC f) wr.drew from hF.out)
      have X1 := hide (show wr.drew.cell? ⟨b, off + j, none⟩ = some (.int .i64 x) from hx1.out)
      have O1 := hide (show wr.drew.ownsRow (w.heap.size + 1) 3 1 v j (((zs.take j).map u).map (Value.int .i64)) from hown.out)
      have B1 := hide (show Below w.heap.size w wr.drew from hB.out.drew)
      have LB : w.heap.size ≤ wr.drew.heap.size := Nat.le_trans (Nat.le_succ _) hsz
      have LA : w.heap.size + 1 ≤ wr.drew.heap.size := hsz
      refine plan_region [(0, true), (1, true), (2, true), (3, true), (4, true), (5, true), (6, false), (7, false), (8, false), (9, true)] (fun w' => Blk w.heap.size 23 (fmtC f) w' ∧ w'.cell? ⟨b, off + j, none⟩ = some (.int .i64 x)) [] rfl (by kernel_rfl) (fun _ _ d _ _ h => by cases d <;> exact h) ?_
      generalize wr.drew = w1 at *
      refine plan_v (i := 0) (N := (some 13)) (v := ?v5x0) (a' := ?b5x0) rfl rfl ⟨F1.out, X1.out⟩ (by rfl) ?hy5x0 ?ha5x0 ?_
      case hy5x0 =>
        intro w' hS'
        go_simp
        with_reducible rfl
      case ha5x0 =>
        simp only [Act.put, List.setIfInBounds_toArray, List.set_cons_zero, List.set_cons_succ]
        rfl
      refine plan_v (i := 1) (N := (some 14)) (v := ?v5x1) (a' := ?b5x1) rfl rfl ⟨F1.out, X1.out⟩ (by rfl) ?hy5x1 ?ha5x1 ?_
      case hy5x1 =>
        intro w' hS'
        have f0 : w'.cell? ⟨w.heap.size, 0, none⟩ = some (.int .i64 f.bits) := hS'.1.cell 0
        have f1 : w'.cell? ⟨w.heap.size, 1, none⟩ = some (.int .i64 f.depth) := hS'.1.cell 1
        have f2 : w'.cell? ⟨w.heap.size, 2, none⟩ = some (.bool f.big) := hS'.1.cell 2
        have f3 : w'.cell? ⟨w.heap.size, 3, none⟩ = some (.bool f.tru) := hS'.1.cell 3
        have f4 : w'.cell? ⟨w.heap.size, 4, none⟩ = some (.int .i64 f.rm) := hS'.1.cell 4
        have f5 : w'.cell? ⟨w.heap.size, 5, none⟩ = some (.int .i64 f.gm) := hS'.1.cell 5
        have f6 : w'.cell? ⟨w.heap.size, 6, none⟩ = some (.int .i64 f.bm) := hS'.1.cell 6
        have f7 : w'.cell? ⟨w.heap.size, 7, none⟩ = some (.int .i64 f.rs) := hS'.1.cell 7
        have f8 : w'.cell? ⟨w.heap.size, 8, none⟩ = some (.int .i64 f.gs) := hS'.1.cell 8
        have f9 : w'.cell? ⟨w.heap.size, 9, none⟩ = some (.int .i64 f.bs) := hS'.1.cell 9
        go_simp
        with_reducible rfl
      case ha5x1 =>
        simp only [Act.put, List.setIfInBounds_toArray, List.set_cons_zero, List.set_cons_succ]
        rfl
      refine plan_v (i := 2) (N := (some 15)) (v := ?v5x2) (a' := ?b5x2) rfl rfl ⟨F1.out, X1.out⟩ (by rfl) ?hy5x2 ?ha5x2 ?_
      case hy5x2 =>
        intro w' hS'
        go_simp
        with_reducible rfl
      case ha5x2 =>
        simp only [Act.put, List.setIfInBounds_toArray, List.set_cons_zero, List.set_cons_succ]
        rfl
      refine plan_v (i := 3) (N := (some 16)) (v := ?v5x3) (a' := ?b5x3) rfl rfl ⟨F1.out, X1.out⟩ (by rfl) ?hy5x3 ?ha5x3 ?_
      case hy5x3 =>
        intro w' hS'
        go_simp
        with_reducible rfl
      case ha5x3 =>
        simp only [Act.put, List.setIfInBounds_toArray, List.set_cons_zero, List.set_cons_succ]
        rfl
      refine plan_v (i := 4) (N := (some 17)) (v := ?v5x4) (a' := ?b5x4) rfl rfl ⟨F1.out, X1.out⟩ (by rfl) ?hy5x4 ?ha5x4 ?_
      case hy5x4 =>
        intro w' hS'
        go_simp
        with_reducible rfl
      case ha5x4 =>
        simp only [Act.put, List.setIfInBounds_toArray, List.set_cons_zero, List.set_cons_succ]
        rfl
      refine plan_v (i := 5) (N := (some 18)) (v := ?v5x5) (a' := ?b5x5) rfl rfl ⟨F1.out, X1.out⟩ (by rfl) ?hy5x5 ?ha5x5 ?_
      case hy5x5 =>
        intro w' hS'
        have x0 := hS'.2
        go_simp
        with_reducible rfl
      case ha5x5 =>
        simp only [Act.put, List.setIfInBounds_toArray, List.set_cons_zero, List.set_cons_succ]
        rfl
      refine plan_e (i := 6) rfl (by rfl) (fun K hK => ?_)
      go_simp
      refine (KC.out _).mono ?_
      rintro e w2 ⟨rfl, hb⟩
      have HB2 := hide hb
      have F2 := hide (F1.out.below hb)
      have X2 := hide ((hb.cell (p := ⟨b, off + j, none⟩) (Nat.lt_of_lt_of_le hblt LB)).trans X1.out)
      have O2 := hide (own_below O1.out hb)
      have B2 := hide (B1.out.trans (hb.mono LB))
      have LB2 := Nat.le_trans LB hb.size
      have LA2 := Nat.le_trans LA hb.size
      clear hb
      refine hK _ _ (fun _ => ⟨F2.out, X2.out⟩) ?_
      clear hK K
      refine plan_e (i := 7) rfl (by rfl) (fun K hK => ?_)
      go_simp
      have F3 := hide (F2.out.alloc (.cells #[.int .i64 y] 3))
      have X3 := hide ((((Below.refl w2.heap.size w2).alloc (Nat.le_refl _) (.cells #[.int .i64 y] 3)).cell (p := ⟨b, off + j, none⟩) (Nat.lt_of_lt_of_le hblt LB2)).trans X2.out)
      have O3 := hide (O2.out.alloc (.cells #[.int .i64 y] 3))
      have B3 := hide (B2.out.alloc LB2 (.cells #[.int .i64 y] 3))
      have C3 := hide ((Blk.new w2 3 #[.int .i64 y]).cell 0)
      have LB3 : w.heap.size ≤ (w2.alloc (.cells #[.int .i64 y] 3)).heap.size := by rw [World.size_alloc]; omega
      have LA3 : w.heap.size + 1 ≤ (w2.alloc (.cells #[.int .i64 y] 3)).heap.size := by rw [World.size_alloc]; omega
      refine hK _ _ (fun _ => ⟨F3.out, X3.out⟩) ?_
      clear hK K
      have hw3 : ∃ w3, w3 = w2.alloc (.cells #[.int .i64 y] 3) := ⟨_, rfl⟩
      obtain ⟨w3, hw3⟩ := hw3
      rw [← hw3] at F3 X3 O3 B3 C3 LB3 LA3 ⊢
      clear hw3
      refine plan_e (i := 8) rfl (by rfl) (fun K hK => ?_)
      refine wp_append_own w3 (.tmp 13) (.tmp 20) 32 rfl (w.heap.size + 1) 3 i0 (.int .i64 0) 1 8 Try.underlying32 hi hz0 hz1 hz2 rfl (by decide) _ _ _ rfl O3.out ⟨w2.heap.size, 0, none⟩ 1 1 [.int .i64 y] rfl rfl ?c1 ?c2 ?c3 ?c4 ?c5 ?_
      case c1 =>
        intro i u hi
        match i, hi with
        | 0, hi => simp at hi; subst hi; exact C3.out
      case c2 => intro u hu; simp at hu; subst hu; rfl
      case c3 => unfold maxLen; omega
      case c4 => omega
      case c5 => exact LA3
      intro v4 w4 hown4 hg4 _
      have hgrow4 : w3.grownBy w4 v.ownBlock := hg4
      clear hg4
      have hgb : ∀ k, v.ownBlock = some k → w.heap.size + 1 ≤ k := fun k e => (O3.out.lt k e).1
      have F4 : Hid (Blk w.heap.size 23 (fmtC f) w4) := hide ((hgrow4.block w.heap.size F3.out.lt (fun e => by have := hgb _ e.symm; omega)).trans F3.out)
      have B4 := hide (Below.grown B3.out hgrow4 LB3 (fun k e => by have := hgb k e; omega))
      have X4 := hide ((hgrow4.cell (a := ⟨b, off + j, none⟩) X3.out (fun e => by have h : w.heap.size + 1 ≤ b := hgb _ e.symm; omega)))
      have O4 := hide hown4
      have LA4 := Nat.le_trans LA3 hgrow4.size
      have LB4 := Nat.le_trans LB3 hgrow4.size
      clear hown4 hgrow4 hgb
      refine hK _ _ (fun _ => ⟨F4.out, X4.out⟩) ?_
      clear hK K
      refine plan_v (i := 9) (N := (some 5)) (v := ?v5x9) (a' := ?b5x9) rfl rfl ⟨F4.out, X4.out⟩ (by rfl) ?hy5x9 ?ha5x9 ?_
      case hy5x9 =>
        intro w' hS'
        go_simp
        with_reducible rfl
      case ha5x9 =>
        simp only [Act.put, List.setIfInBounds_toArray]
        rfl
      refine plan_done ?_
      rw [← et.out] at O4
      go_wp2_with fail
      go_roundw
      case rel => exact ⟨j + 1, _, rfl, by omega, by go_num, O4, F4, B4, LA4⟩
      case measure => simp [intOf]; omega
    · obtain rfl : j = n := by omega
      have et : Hid (zs.take j = zs) := hide (List.take_of_length_le (by rw [hlz.out]; exact Nat.le_refl _))
      rw [et.out] at hown
      obtain ⟨a', cap', rfl⟩ := own_slice hown.out
      go_wp2_with fail
      go_ret
      exact ⟨_, rfl, own_base hown.out (Nat.le_succ _), hB.out⟩

set_option maxHeartbeats 3200000 in
set_option maxRecDepth 100000 in
theorem rcols_walk (f : Fmt) (a : Option Addr) (n cap : Nat) (zs : List Int) (u : Int → Int) (w : World) (hn : n ≤ 1099511627776) (hI : Hid (IntsIn w.heap.size w a n zs))
    (K92 : Hid (∀ c w, Calls Try.prog 92 #[fmtV f, .int .i64 c] w fun e w' => e = .returned (.int .i64 (u c)) ∧ Below w.heap.size w w')) :
    Calls Try.prog 95 #[fmtV f, .slice a n cap] w fun e w' => ∃ v, e = .returned v ∧ w'.ownsRow w.heap.size 3 1 v n ((zs.map u).map (Value.int .i64)) ∧ Below w.heap.size w w' := by
  obtain ⟨i0, hi, hz0, hz1, hz2⟩ := info_parts info3
  have hlz : Hid (zs.length = n) := hI.out.1
  have F0 := hide (Blk.new w 23 (fmtC f))
  have B0 := hide ((Below.refl w.heap.size w).alloc (Nat.le_refl _) (.cells (fmtC f) 23))
  have L0 : w.heap.size + 1 ≤ (w.alloc (.cells (fmtC f) 23)).heap.size := by rw [World.size_alloc]; exact Nat.le_refl _
  go_enter Try.func95, Try.ntmps95
  go_upto_region 1 with fail
  generalize w.alloc (.cells (fmtC f) 23) = w0 at *
  go_wp2_with fail
  go_loopw [5, 6] (fun v i wr => ∃ (j : Nat) (V : Value), V = v ∧ j ≤ n ∧ i = .int .i64 j ∧ Hid (wr.ownsRow (w.heap.size + 1) 3 1 V j (((zs.take j).map u).map (Value.int .i64))) ∧ Hid (Blk w.heap.size 23 (fmtC f) wr) ∧ Hid (Below w.heap.size w wr) ∧ w.heap.size + 1 ≤ wr.heap.size) (fun _ i _ => n - (intOf i).toNat)
  case atStart => exact ⟨0, _, rfl, by omega, rfl, hide (World.ownsRow_nil _ _ _ _), F0, B0, L0⟩
  case round =>
    obtain ⟨j, v, rfl, hj, rfl, hown, hF, hB, hsz⟩ := hrel
    by_cases hlt : j < n
    · obtain ⟨b, off, rfl, hblt, hcs⟩ := hI.out.2.resolve_left (by omega)
      have hx0 := hcs j hlt
      have ez : zs[j]?.getD 0 = zs[j]'(by rw [hlz.out]; exact hlt) := by rw [List.getElem?_eq_getElem (by rw [hlz.out]; exact hlt), Option.getD_some]
      have et : Hid (((zs.take (j + 1)).map u).map (Value.int .i64) = ((zs.take j).map u).map (Value.int .i64) ++ [.int .i64 (u (zs[j]?.getD 0))]) := by
        refine hide ?_
        rw [ez, List.take_succ_eq_append_getElem (by rw [hlz.out]; exact hlt), List.map_append, List.map_append]
        rfl
      have KC := hide (K92.out (zs[j]?.getD 0))
      have hx1 := hide ((hB.out.cell (p := ⟨b, off + j, none⟩) hblt).trans hx0)
      clear hx0 hcs ez
      generalize zs[j]?.getD 0 = x at *
      generalize u x = y at *
      go_wp2_with fail
      have F1 := hide (show Blk w.heap.size 23 (fmtC f) wr.drew from hF.out)
      have X1 := hide (show wr.drew.cell? ⟨b, off + j, none⟩ = some (.int .i64 x) from hx1.out)
      have O1 := hide (show wr.drew.ownsRow (w.heap.size + 1) 3 1 v j (((zs.take j).map u).map (Value.int .i64)) from hown.out)
      have B1 := hide (show Below w.heap.size w wr.drew from hB.out.drew)
      have LB : w.heap.size ≤ wr.drew.heap.size := Nat.le_trans (Nat.le_succ _) hsz
      have LA : w.heap.size + 1 ≤ wr.drew.heap.size := hsz
      refine plan_region [(0, true), (1, true), (2, true), (3, true), (4, true), (5, true), (6, false), (7, false), (8, false), (9, true)] (fun w' => Blk w.heap.size 23 (fmtC f) w' ∧ w'.cell? ⟨b, off + j, none⟩ = some (.int .i64 x)) [] rfl (by kernel_rfl) (fun _ _ d _ _ h => by cases d <;> exact h) ?_
      generalize wr.drew = w1 at *
      refine plan_v (i := 0) (N := (some 13)) (v := ?v5x0) (a' := ?b5x0) rfl rfl ⟨F1.out, X1.out⟩ (by rfl) ?hy5x0 ?ha5x0 ?_
      case hy5x0 =>
        intro w' hS'
        go_simp
        with_reducible rfl
      case ha5x0 =>
        simp only [Act.put, List.setIfInBounds_toArray, List.set_cons_zero, List.set_cons_succ]
        rfl
      refine plan_v (i := 1) (N := (some 14)) (v := ?v5x1) (a' := ?b5x1) rfl rfl ⟨F1.out, X1.out⟩ (by rfl) ?hy5x1 ?ha5x1 ?_
      case hy5x1 =>
        intro w' hS'
        have f0 : w'.cell? ⟨w.heap.size, 0, none⟩ = some (.int .i64 f.bits) := hS'.1.cell 0
        have f1 : w'.cell? ⟨w.heap.size, 1, none⟩ = some (.int .i64 f.depth) := hS'.1.cell 1
        have f2 : w'.cell? ⟨w.heap.size, 2, none⟩ = some (.bool f.big) := hS'.1.cell 2
        have f3 : w'.cell? ⟨w.heap.size, 3, none⟩ = some (.bool f.tru) := hS'.1.cell 3
        have f4 : w'.cell? ⟨w.heap.size, 4, none⟩ = some (.int .i64 f.rm) := hS'.1.cell 4
        have f5 : w'.cell? ⟨w.heap.size, 5, none⟩ = some (.int .i64 f.gm) := hS'.1.cell 5
        have f6 : w'.cell? ⟨w.heap.size, 6, none⟩ = some (.int .i64 f.bm) := hS'.1.cell 6
        have f7 : w'.cell? ⟨w.heap.size, 7, none⟩ = some (.int .i64 f.rs) := hS'.1.cell 7
        have f8 : w'.cell? ⟨w.heap.size, 8, none⟩ = some (.int .i64 f.gs) := hS'.1.cell 8
        have f9 : w'.cell? ⟨w.heap.size, 9, none⟩ = some (.int .i64 f.bs) := hS'.1.cell 9
        go_simp
        with_reducible rfl
      case ha5x1 =>
        simp only [Act.put, List.setIfInBounds_toArray, List.set_cons_zero, List.set_cons_succ]
        rfl
      refine plan_v (i := 2) (N := (some 15)) (v := ?v5x2) (a' := ?b5x2) rfl rfl ⟨F1.out, X1.out⟩ (by rfl) ?hy5x2 ?ha5x2 ?_
      case hy5x2 =>
        intro w' hS'
        go_simp
        with_reducible rfl
      case ha5x2 =>
        simp only [Act.put, List.setIfInBounds_toArray, List.set_cons_zero, List.set_cons_succ]
        rfl
      refine plan_v (i := 3) (N := (some 16)) (v := ?v5x3) (a' := ?b5x3) rfl rfl ⟨F1.out, X1.out⟩ (by rfl) ?hy5x3 ?ha5x3 ?_
      case hy5x3 =>
        intro w' hS'
        go_simp
        with_reducible rfl
      case ha5x3 =>
        simp only [Act.put, List.setIfInBounds_toArray, List.set_cons_zero, List.set_cons_succ]
        rfl
      refine plan_v (i := 4) (N := (some 17)) (v := ?v5x4) (a' := ?b5x4) rfl rfl ⟨F1.out, X1.out⟩ (by rfl) ?hy5x4 ?ha5x4 ?_
      case hy5x4 =>
        intro w' hS'
        go_simp
        with_reducible rfl
      case ha5x4 =>
        simp only [Act.put, List.setIfInBounds_toArray, List.set_cons_zero, List.set_cons_succ]
        rfl
      refine plan_v (i := 5) (N := (some 18)) (v := ?v5x5) (a' := ?b5x5) rfl rfl ⟨F1.out, X1.out⟩ (by rfl) ?hy5x5 ?ha5x5 ?_
      case hy5x5 =>
        intro w' hS'
        have x0 := hS'.2
        go_simp
        with_reducible rfl
      case ha5x5 =>
        simp only [Act.put, List.setIfInBounds_toArray, List.set_cons_zero, List.set_cons_succ]
        rfl
      refine plan_e (i := 6) rfl (by rfl) (fun K hK => ?_)
      go_simp
      refine (KC.out _).mono ?_
      rintro e w2 ⟨rfl, hb⟩
      have HB2 := hide hb
      have F2 := hide (F1.out.below hb)
      have X2 := hide ((hb.cell (p := ⟨b, off + j, none⟩) (Nat.lt_of_lt_of_le hblt LB)).trans X1.out)
      have O2 := hide (own_below O1.out hb)
      have B2 := hide (B1.out.trans (hb.mono LB))
      have LB2 := Nat.le_trans LB hb.size
      have LA2 := Nat.le_trans LA hb.size
      clear hb
      refine hK _ _ (fun _ => ⟨F2.out, X2.out⟩) ?_
      clear hK K
      refine plan_e (i := 7) rfl (by rfl) (fun K hK => ?_)
      go_simp
      have F3 := hide (F2.out.alloc (.cells #[.int .i64 y] 3))
      have X3 := hide ((((Below.refl w2.heap.size w2).alloc (Nat.le_refl _) (.cells #[.int .i64 y] 3)).cell (p := ⟨b, off + j, none⟩) (Nat.lt_of_lt_of_le hblt LB2)).trans X2.out)
      have O3 := hide (O2.out.alloc (.cells #[.int .i64 y] 3))
      have B3 := hide (B2.out.alloc LB2 (.cells #[.int .i64 y] 3))
      have C3 := hide ((Blk.new w2 3 #[.int .i64 y]).cell 0)
      have LB3 : w.heap.size ≤ (w2.alloc (.cells #[.int .i64 y] 3)).heap.size := by rw [World.size_alloc]; omega
      have LA3 : w.heap.size + 1 ≤ (w2.alloc (.cells #[.int .i64 y] 3)).heap.size := by rw [World.size_alloc]; omega
      refine hK _ _ (fun _ => ⟨F3.out, X3.out⟩) ?_
      clear hK K
      have hw3 : ∃ w3, w3 = w2.alloc (.cells #[.int .i64 y] 3) := ⟨_, rfl⟩
      obtain ⟨w3, hw3⟩ := hw3
      rw [← hw3] at F3 X3 O3 B3 C3 LB3 LA3 ⊢
      clear hw3
      refine plan_e (i := 8) rfl (by rfl) (fun K hK => ?_)
      refine wp_append_own w3 (.tmp 13) (.tmp 20) 32 rfl (w.heap.size + 1) 3 i0 (.int .i64 0) 1 8 Try.underlying32 hi hz0 hz1 hz2 rfl (by decide) _ _ _ rfl O3.out ⟨w2.heap.size, 0, none⟩ 1 1 [.int .i64 y] rfl rfl ?c1 ?c2 ?c3 ?c4 ?c5 ?_
      case c1 =>
        intro i u hi
        match i, hi with
        | 0, hi => simp at hi; subst hi; exact C3.out
      case c2 => intro u hu; simp at hu; subst hu; rfl
      case c3 => unfold maxLen; omega
      case c4 => omega
      case c5 => exact LA3
      intro v4 w4 hown4 hg4 _
      have hgrow4 : w3.grownBy w4 v.ownBlock := hg4
      clear hg4
      have hgb : ∀ k, v.ownBlock = some k → w.heap.size + 1 ≤ k := fun k e => (O3.out.lt k e).1
      have F4 : Hid (Blk w.heap.size 23 (fmtC f) w4) := hide ((hgrow4.block w.heap.size F3.out.lt (fun e => by have := hgb _ e.symm; omega)).trans F3.out)
      have B4 := hide (Below.grown B3.out hgrow4 LB3 (fun k e => by have := hgb k e; omega))
      have X4 := hide ((hgrow4.cell (a := ⟨b, off + j, none⟩) X3.out (fun e => by have h : w.heap.size + 1 ≤ b := hgb _ e.symm; omega)))
      have O4 := hide hown4
      have LA4 := Nat.le_trans LA3 hgrow4.size
      have LB4 := Nat.le_trans LB3 hgrow4.size
      clear hown4 hgrow4 hgb
      refine hK _ _ (fun _ => ⟨F4.out, X4.out⟩) ?_
      clear hK K
      refine plan_v (i := 9) (N := (some 5)) (v := ?v5x9) (a' := ?b5x9) rfl rfl ⟨F4.out, X4.out⟩ (by rfl) ?hy5x9 ?ha5x9 ?_
      case hy5x9 =>
        intro w' hS'
        go_simp
        with_reducible rfl
      case ha5x9 =>
        simp only [Act.put, List.setIfInBounds_toArray]
        rfl
      refine plan_done ?_
      rw [← et.out] at O4
      go_wp2_with fail
      go_roundw
      case rel => exact ⟨j + 1, _, rfl, by omega, by go_num, O4, F4, B4, LA4⟩
      case measure => simp [intOf]; omega
    · obtain rfl : j = n := by omega
      have et : Hid (zs.take j = zs) := hide (List.take_of_length_le (by rw [hlz.out]; exact Nat.le_refl _))
      rw [et.out] at hown
      obtain ⟨a', cap', rfl⟩ := own_slice hown.out
      go_wp2_with fail
      go_ret
      exact ⟨_, rfl, own_base hown.out (Nat.le_succ _), hB.out⟩

/-- miradorref16.Values. -/
theorem rvals_any (f : Fmt) (a : Option Addr) (n cap : Nat) (zs : List Int) (w : World) (h : validB f = true) (hn : n ≤ 1099511627776) (hI : IntsIn w.heap.size w a n zs) :
    Calls Try.prog 33 #[fmtV f, .slice a n cap] w fun e w' => ∃ v, e = .returned v ∧ w'.ownsRow w.heap.size 3 1 v n ((zs.map (valV f)).map (Value.int .i64)) ∧ Below w.heap.size w w' :=
  rvals_walk f a n cap zs (valV f) w hn hI (fun c w => rvalue_any f c w h)

/-- miradorref16.Colours. -/
theorem rcols_any (f : Fmt) (a : Option Addr) (n cap : Nat) (zs : List Int) (w : World) (h : validB f = true) (hn : n ≤ 1099511627776) (hI : IntsIn w.heap.size w a n zs) :
    Calls Try.prog 95 #[fmtV f, .slice a n cap] w fun e w' => ∃ v, e = .returned v ∧ w'.ownsRow w.heap.size 3 1 v n ((zs.map (colV f)).map (Value.int .i64)) ∧ Below w.heap.size w w' :=
  rcols_walk f a n cap zs (colV f) w hn hI (fun c w => rcolour_any f c w h)

end Go.Proofs.Ytodlpofpeoiedaa

/-
  What is left of colours, and colours' bytes, by the document.
-/
namespace Go.Proofs.Ytodlpofpeoiedaa
open Go.RowKit Go.Sort

/-- A row that a call owns is a row of numbers to read. -/
theorem own_ints {w : World} {base n cap : Nat} {a : Option Addr} {xs : List Int} (h : w.ownsRow base 3 1 (.slice a n cap) n (xs.map (Value.int .i64))) : IntsIn w.heap.size w a n xs := by
  have hl : xs.length = n := by have := h.1; simpa using this
  refine ⟨hl, ?_⟩
  rcases h.2 with ⟨_, h0⟩ | ⟨g, cap', cur, e, hb, hg, _⟩
  · exact .inl h0
  · cases e
    refine .inr ⟨g, 0, rfl, (Array.getElem?_eq_some_iff.1 hg).1, fun j hj => ?_⟩
    rw [Nat.zero_add, h.cellAt j (by omega), List.getElem?_map]
    rw [List.getElem?_eq_getElem (by omega)]
    rfl

theorem intsIn_mono {m n : Nat} {w : World} {a : Option Addr} {k : Nat} {zs : List Int} (h : IntsIn m w a k zs) (hm : m ≤ n) : IntsIn n w a k zs :=
  ⟨h.1, h.2.imp id fun ⟨b, off, e, hlt, hc⟩ => ⟨b, off, e, Nat.lt_of_lt_of_le hlt hm, hc⟩⟩

set_option maxHeartbeats 3200000 in
set_option maxRecDepth 100000 in
theorem rquants_walk (f : Fmt) (a : Option Addr) (n cap : Nat) (V C : List Value) (w : World)
    (K33 : Hid (∀ w', Below w.heap.size w w' → Calls Try.prog 33 #[fmtV f, .slice a n cap] w' fun e w'' => ∃ v, e = .returned v ∧ w''.ownsRow w'.heap.size 3 1 v n V ∧ Below w'.heap.size w' w''))
    (K95 : Hid (∀ v b w, w.ownsRow b 3 1 v n V → Calls Try.prog 95 #[fmtV f, v] w fun e w' => ∃ v, e = .returned v ∧ w'.ownsRow w.heap.size 3 1 v n C ∧ Below w.heap.size w w')) :
    Calls Try.prog 35 #[fmtV f, .slice a n cap] w fun e w' => ∃ v, e = .returned v ∧ w'.ownsRow w.heap.size 3 1 v n C ∧ Below w.heap.size w w' := by
  have F0 := hide (Blk.new w 23 (fmtC f))
  have B0 := hide ((Below.refl w.heap.size w).alloc (Nat.le_refl _) (.cells (fmtC f) 23))
  go_enter Try.func35, Try.ntmps35
  go_upto_region 1 with fail
  generalize w.alloc (.cells (fmtC f) 23) = w0 at *
  have F1 := hide (show Blk w.heap.size 23 (fmtC f) w0.drew from F0.out)
  have B1 := hide (show Below w.heap.size w w0.drew from B0.out.drew)
  clear F0 B0
  refine plan_region [(0, true), (1, true), (2, true), (3, false), (4, false), (5, true)] (fun w' => Blk w.heap.size 23 (fmtC f) w') [] rfl (by kernel_rfl) (fun _ _ d _ _ h => by cases d <;> exact h) ?_
  generalize w0.drew = w1 at *
  refine plan_v (i := 0) (N := (some 5)) (v := ?v1x0) (a' := ?b1x0) rfl rfl F1.out (by rfl) ?hy1x0 ?ha1x0 ?_
  case hy1x0 =>
    intro w' hS'
    have f0 : w'.cell? ⟨w.heap.size, 0, none⟩ = some (.int .i64 f.bits) := hS'.cell 0
    have f1 : w'.cell? ⟨w.heap.size, 1, none⟩ = some (.int .i64 f.depth) := hS'.cell 1
    have f2 : w'.cell? ⟨w.heap.size, 2, none⟩ = some (.bool f.big) := hS'.cell 2
    have f3 : w'.cell? ⟨w.heap.size, 3, none⟩ = some (.bool f.tru) := hS'.cell 3
    have f4 : w'.cell? ⟨w.heap.size, 4, none⟩ = some (.int .i64 f.rm) := hS'.cell 4
    have f5 : w'.cell? ⟨w.heap.size, 5, none⟩ = some (.int .i64 f.gm) := hS'.cell 5
    have f6 : w'.cell? ⟨w.heap.size, 6, none⟩ = some (.int .i64 f.bm) := hS'.cell 6
    have f7 : w'.cell? ⟨w.heap.size, 7, none⟩ = some (.int .i64 f.rs) := hS'.cell 7
    have f8 : w'.cell? ⟨w.heap.size, 8, none⟩ = some (.int .i64 f.gs) := hS'.cell 8
    have f9 : w'.cell? ⟨w.heap.size, 9, none⟩ = some (.int .i64 f.bs) := hS'.cell 9
    go_simp
    with_reducible rfl
  case ha1x0 =>
    simp only [Act.put, List.setIfInBounds_toArray, List.set_cons_zero, List.set_cons_succ]
    rfl
  refine plan_v (i := 1) (N := (some 6)) (v := ?v1x1) (a' := ?b1x1) rfl rfl F1.out (by rfl) ?hy1x1 ?ha1x1 ?_
  case hy1x1 =>
    intro w' hS'
    have f0 : w'.cell? ⟨w.heap.size, 0, none⟩ = some (.int .i64 f.bits) := hS'.cell 0
    have f1 : w'.cell? ⟨w.heap.size, 1, none⟩ = some (.int .i64 f.depth) := hS'.cell 1
    have f2 : w'.cell? ⟨w.heap.size, 2, none⟩ = some (.bool f.big) := hS'.cell 2
    have f3 : w'.cell? ⟨w.heap.size, 3, none⟩ = some (.bool f.tru) := hS'.cell 3
    have f4 : w'.cell? ⟨w.heap.size, 4, none⟩ = some (.int .i64 f.rm) := hS'.cell 4
    have f5 : w'.cell? ⟨w.heap.size, 5, none⟩ = some (.int .i64 f.gm) := hS'.cell 5
    have f6 : w'.cell? ⟨w.heap.size, 6, none⟩ = some (.int .i64 f.bm) := hS'.cell 6
    have f7 : w'.cell? ⟨w.heap.size, 7, none⟩ = some (.int .i64 f.rs) := hS'.cell 7
    have f8 : w'.cell? ⟨w.heap.size, 8, none⟩ = some (.int .i64 f.gs) := hS'.cell 8
    have f9 : w'.cell? ⟨w.heap.size, 9, none⟩ = some (.int .i64 f.bs) := hS'.cell 9
    go_simp
    with_reducible rfl
  case ha1x1 =>
    simp only [Act.put, List.setIfInBounds_toArray, List.set_cons_zero, List.set_cons_succ]
    rfl
  refine plan_v (i := 2) (N := (some 7)) (v := ?v1x2) (a' := ?b1x2) rfl rfl F1.out (by rfl) ?hy1x2 ?ha1x2 ?_
  case hy1x2 =>
    intro w' hS'
    go_simp
    with_reducible rfl
  case ha1x2 =>
    simp only [Act.put, List.setIfInBounds_toArray, List.set_cons_zero, List.set_cons_succ]
    rfl
  refine plan_e (i := 3) rfl (by rfl) (fun K hK => ?_)
  go_simp
  refine (K33.out _ B1.out).mono ?_
  rintro e w2 ⟨v2, rfl, ho2, hb⟩
  have F2 := hide (F1.out.below hb)
  have B2 := hide (B1.out.trans (hb.mono B1.out.size))
  have O2 := hide ho2
  have LB2 := Nat.le_trans B1.out.size hb.size
  clear hb ho2
  refine hK _ _ (fun _ => F2.out) ?_
  clear hK K
  refine plan_e (i := 4) rfl (by rfl) (fun K hK => ?_)
  go_simp
  refine (K95.out _ _ _ O2.out).mono ?_
  rintro e w3 ⟨v3, rfl, ho3, hb⟩
  have F3 := hide (F2.out.below hb)
  have B3 := hide (B2.out.trans (hb.mono LB2))
  have O3 := hide (own_base ho3 LB2)
  clear hb ho3
  refine hK _ _ (fun _ => F3.out) ?_
  clear hK K
  refine plan_v (i := 5) (N := (some 4)) (v := ?v1x5) (a' := ?b1x5) rfl rfl F3.out (by rfl) ?hy1x5 ?ha1x5 ?_
  case hy1x5 =>
    intro w' hS'
    go_simp
    with_reducible rfl
  case ha1x5 =>
    simp only [Act.put, List.setIfInBounds_toArray, List.set_cons_zero, List.set_cons_succ]
    rfl
  refine plan_done ?_
  obtain ⟨a3, c3, rfl⟩ := own_slice O3.out
  go_wp2_with fail
  go_ret
  exact ⟨_, rfl, O3.out, B3.out⟩

/-- miradorref16.Quants. -/
theorem rquants_any (f : Fmt) (a : Option Addr) (n cap : Nat) (zs : List Int) (w : World) (h : validB f = true) (hn : n ≤ 1099511627776) (hI : IntsIn w.heap.size w a n zs) :
    Calls Try.prog 35 #[fmtV f, .slice a n cap] w fun e w' => ∃ v, e = .returned v ∧ w'.ownsRow w.heap.size 3 1 v n ((zs.map (quantV f)).map (Value.int .i64)) ∧ Below w.heap.size w w' := by
  refine rquants_walk f a n cap ((zs.map (valV f)).map (Value.int .i64)) _ w (fun w' hb => rvals_any f a n cap zs w' h hn (intsIn_mono (hI.below hb) hb.size)) (fun v b w ho => ?_)
  obtain ⟨a', cap', rfl⟩ := own_slice ho
  have := rcols_any f a' n cap' _ w h hn (own_ints ho)
  have e : (zs.map (valV f)).map (colV f) = zs.map (quantV f) := by rw [List.map_map]; rfl
  rw [e] at this
  exact this

set_option maxHeartbeats 3200000 in
set_option maxRecDepth 100000 in
theorem rraw_walk (f : Fmt) (a : Option Addr) (n cap : Nat) (zs : List Int) (u : Int → Int) (P : Int → ByteArray) (t : Nat → ByteArray) (w : World) (hI : Hid (IntsIn w.heap.size w a n zs))
    (ht0 : t 0 = ⟨#[]⟩) (hts : Hid (∀ j, j < n → t (j + 1) = t j ++ P (u (zs[j]?.getD 0)))) (htz : Hid (∀ j, j < n → (9223372036854775807 < (t j).size + (P (u (zs[j]?.getD 0))).size) = False)) (hn : n ≤ 1099511627776)
    (K93 : Hid (∀ c w, Calls Try.prog 93 #[fmtV f, .int .i64 c] w fun e w' => e = .returned (.int .i64 (u c)) ∧ Below w.heap.size w w'))
    (K94 : Hid (∀ c w, Calls Try.prog 94 #[fmtV f, .int .i64 c] w fun e w' => e = .returned (.string (P c)) ∧ Below w.heap.size w w')) :
    Calls Try.prog 34 #[fmtV f, .slice a n cap] w fun e w' => e = .returned (.string (t n)) ∧ Below w.heap.size w w' := by
  have F0 := hide (Blk.new w 23 (fmtC f))
  have B0 := hide ((Below.refl w.heap.size w).alloc (Nat.le_refl _) (.cells (fmtC f) 23))
  go_enter Try.func34, Try.ntmps34
  go_upto_region 1 with fail
  generalize w.alloc (.cells (fmtC f) 23) = w0 at *
  go_wp2_with fail
  rw [← ht0]
  go_loopw [5, 6] (fun s i wr => ∃ j : Nat, j ≤ n ∧ s = .string (t j) ∧ i = .int .i64 j ∧ Hid (Blk w.heap.size 23 (fmtC f) wr) ∧ Hid (Below w.heap.size w wr)) (fun _ i _ => n - (intOf i).toNat)
  case atStart => exact ⟨0, by omega, rfl, rfl, F0, B0⟩
  case round =>
    obtain ⟨j, hj, rfl, rfl, hF, hB⟩ := hrel
    by_cases hlt : j < n
    · obtain ⟨b, off, rfl, hblt, hcs⟩ := hI.out.2.resolve_left (by omega)
      have hx0 := hcs j hlt
      have KC := hide (K93.out (zs[j]?.getD 0))
      have KD := hide (K94.out (u (zs[j]?.getD 0)))
      have hx1 := hide ((hB.out.cell (p := ⟨b, off + j, none⟩) hblt).trans hx0)
      have et := hide (hts.out j hlt)
      have ez := htz.out j hlt
      clear hx0 hcs ht0
      generalize zs[j]?.getD 0 = x at *
      generalize u x = y at *
      generalize P y = T at *
      go_wp2_with fail
      have F1 := hide (show Blk w.heap.size 23 (fmtC f) wr.drew from hF.out)
      have X1 := hide (show wr.drew.cell? ⟨b, off + j, none⟩ = some (.int .i64 x) from hx1.out)
      have B1 := hide (show Below w.heap.size w wr.drew from hB.out.drew)
      refine plan_region [(0, true), (1, true), (2, true), (3, true), (4, true), (5, true), (6, true), (7, false), (8, false), (9, true), (10, true)] (fun w' => Blk w.heap.size 23 (fmtC f) w' ∧ w'.cell? ⟨b, off + j, none⟩ = some (.int .i64 x)) [] rfl (by kernel_rfl) (fun _ _ d _ _ h => by cases d <;> exact h) ?_
      generalize wr.drew = w1 at *
      refine plan_v (i := 0) (N := (some 13)) (v := ?v5x0) (a' := ?b5x0) rfl rfl ⟨F1.out, X1.out⟩ (by rfl) ?hy5x0 ?ha5x0 ?_
      case hy5x0 =>
        intro w' hS'
        go_simp
        with_reducible rfl
      case ha5x0 =>
        simp only [Act.put, List.setIfInBounds_toArray, List.set_cons_zero, List.set_cons_succ]
        rfl
      refine plan_v (i := 1) (N := (some 14)) (v := ?v5x1) (a' := ?b5x1) rfl rfl ⟨F1.out, X1.out⟩ (by rfl) ?hy5x1 ?ha5x1 ?_
      case hy5x1 =>
        intro w' hS'
        have f0 : w'.cell? ⟨w.heap.size, 0, none⟩ = some (.int .i64 f.bits) := hS'.1.cell 0
        have f1 : w'.cell? ⟨w.heap.size, 1, none⟩ = some (.int .i64 f.depth) := hS'.1.cell 1
        have f2 : w'.cell? ⟨w.heap.size, 2, none⟩ = some (.bool f.big) := hS'.1.cell 2
        have f3 : w'.cell? ⟨w.heap.size, 3, none⟩ = some (.bool f.tru) := hS'.1.cell 3
        have f4 : w'.cell? ⟨w.heap.size, 4, none⟩ = some (.int .i64 f.rm) := hS'.1.cell 4
        have f5 : w'.cell? ⟨w.heap.size, 5, none⟩ = some (.int .i64 f.gm) := hS'.1.cell 5
        have f6 : w'.cell? ⟨w.heap.size, 6, none⟩ = some (.int .i64 f.bm) := hS'.1.cell 6
        have f7 : w'.cell? ⟨w.heap.size, 7, none⟩ = some (.int .i64 f.rs) := hS'.1.cell 7
        have f8 : w'.cell? ⟨w.heap.size, 8, none⟩ = some (.int .i64 f.gs) := hS'.1.cell 8
        have f9 : w'.cell? ⟨w.heap.size, 9, none⟩ = some (.int .i64 f.bs) := hS'.1.cell 9
        go_simp
        with_reducible rfl
      case ha5x1 =>
        simp only [Act.put, List.setIfInBounds_toArray, List.set_cons_zero, List.set_cons_succ]
        rfl
      refine plan_v (i := 2) (N := (some 15)) (v := ?v5x2) (a' := ?b5x2) rfl rfl ⟨F1.out, X1.out⟩ (by rfl) ?hy5x2 ?ha5x2 ?_
      case hy5x2 =>
        intro w' hS'
        have f0 : w'.cell? ⟨w.heap.size, 0, none⟩ = some (.int .i64 f.bits) := hS'.1.cell 0
        have f1 : w'.cell? ⟨w.heap.size, 1, none⟩ = some (.int .i64 f.depth) := hS'.1.cell 1
        have f2 : w'.cell? ⟨w.heap.size, 2, none⟩ = some (.bool f.big) := hS'.1.cell 2
        have f3 : w'.cell? ⟨w.heap.size, 3, none⟩ = some (.bool f.tru) := hS'.1.cell 3
        have f4 : w'.cell? ⟨w.heap.size, 4, none⟩ = some (.int .i64 f.rm) := hS'.1.cell 4
        have f5 : w'.cell? ⟨w.heap.size, 5, none⟩ = some (.int .i64 f.gm) := hS'.1.cell 5
        have f6 : w'.cell? ⟨w.heap.size, 6, none⟩ = some (.int .i64 f.bm) := hS'.1.cell 6
        have f7 : w'.cell? ⟨w.heap.size, 7, none⟩ = some (.int .i64 f.rs) := hS'.1.cell 7
        have f8 : w'.cell? ⟨w.heap.size, 8, none⟩ = some (.int .i64 f.gs) := hS'.1.cell 8
        have f9 : w'.cell? ⟨w.heap.size, 9, none⟩ = some (.int .i64 f.bs) := hS'.1.cell 9
        go_simp
        with_reducible rfl
      case ha5x2 =>
        simp only [Act.put, List.setIfInBounds_toArray, List.set_cons_zero, List.set_cons_succ]
        rfl
      refine plan_v (i := 3) (N := (some 16)) (v := ?v5x3) (a' := ?b5x3) rfl rfl ⟨F1.out, X1.out⟩ (by rfl) ?hy5x3 ?ha5x3 ?_
      case hy5x3 =>
        intro w' hS'
        go_simp
        with_reducible rfl
      case ha5x3 =>
        simp only [Act.put, List.setIfInBounds_toArray, List.set_cons_zero, List.set_cons_succ]
        rfl
      refine plan_v (i := 4) (N := (some 17)) (v := ?v5x4) (a' := ?b5x4) rfl rfl ⟨F1.out, X1.out⟩ (by rfl) ?hy5x4 ?ha5x4 ?_
      case hy5x4 =>
        intro w' hS'
        go_simp
        with_reducible rfl
      case ha5x4 =>
        simp only [Act.put, List.setIfInBounds_toArray, List.set_cons_zero, List.set_cons_succ]
        rfl
      refine plan_v (i := 5) (N := (some 18)) (v := ?v5x5) (a' := ?b5x5) rfl rfl ⟨F1.out, X1.out⟩ (by rfl) ?hy5x5 ?ha5x5 ?_
      case hy5x5 =>
        intro w' hS'
        go_simp
        with_reducible rfl
      case ha5x5 =>
        simp only [Act.put, List.setIfInBounds_toArray, List.set_cons_zero, List.set_cons_succ]
        rfl
      refine plan_v (i := 6) (N := (some 19)) (v := ?v5x6) (a' := ?b5x6) rfl rfl ⟨F1.out, X1.out⟩ (by rfl) ?hy5x6 ?ha5x6 ?_
      case hy5x6 =>
        intro w' hS'
        have x0 := hS'.2
        go_simp
        with_reducible rfl
      case ha5x6 =>
        simp only [Act.put, List.setIfInBounds_toArray, List.set_cons_zero, List.set_cons_succ]
        rfl
      refine plan_e (i := 7) rfl (by rfl) (fun K hK => ?_)
      go_simp
      refine (KC.out _).mono ?_
      rintro e w2 ⟨rfl, hb⟩
      have F2 := hide (F1.out.below hb)
      have X2 := hide ((hb.cell (p := ⟨b, off + j, none⟩) (Nat.lt_of_lt_of_le hblt B1.out.size)).trans X1.out)
      have B2 := hide (B1.out.trans (hb.mono B1.out.size))
      clear hb
      refine hK _ _ (fun _ => ⟨F2.out, X2.out⟩) ?_
      clear hK K
      refine plan_e (i := 8) rfl (by rfl) (fun K hK => ?_)
      go_simp
      refine (KD.out _).mono ?_
      rintro e w3 ⟨rfl, hb⟩
      have F3 := hide (F2.out.below hb)
      have X3 := hide ((hb.cell (p := ⟨b, off + j, none⟩) (Nat.lt_of_lt_of_le hblt B2.out.size)).trans X2.out)
      have B3 := hide (B2.out.trans (hb.mono B2.out.size))
      clear hb
      refine hK _ _ (fun _ => ⟨F3.out, X3.out⟩) ?_
      clear hK K
      refine plan_v (i := 9) (N := (some 22)) (v := ?v5x9) (a' := ?b5x9) rfl rfl ⟨F3.out, X3.out⟩ (by rfl) ?hy5x9 ?ha5x9 ?_
      case hy5x9 =>
        intro w' hS'
        go_simp
        with_reducible rfl
      case ha5x9 =>
        simp only [Act.put, List.setIfInBounds_toArray, List.set_cons_zero, List.set_cons_succ]
        rfl
      refine plan_v (i := 10) (N := (some 5)) (v := ?v5x10) (a' := ?b5x10) rfl rfl ⟨F3.out, X3.out⟩ (by rfl) ?hy5x10 ?ha5x10 ?_
      case hy5x10 =>
        intro w' hS'
        go_simp
        with_reducible rfl
      case ha5x10 =>
        simp only [Act.put, List.setIfInBounds_toArray, List.set_cons_zero, List.set_cons_succ]
        rfl
      refine plan_done ?_
      go_wp2_with fail
      go_roundw
      case rel => exact ⟨j + 1, by omega, by rw [← et.out], by go_num, F3, B3⟩
      case measure => simp [intOf]; omega
    · obtain rfl : j = n := by omega
      go_wp2_with fail
      go_ret
      exact ⟨rfl, hB.out⟩

/-- miradorref16.Raw. -/
theorem rraw_any (f : Fmt) (a : Option Addr) (n cap : Nat) (zs : List Int) (w : World) (h : validB f = true) (hn : n ≤ 1099511627776) (hI : IntsIn w.heap.size w a n zs) :
    Calls Try.prog 34 #[fmtV f, .slice a n cap] w fun e w' => e = .returned (.string (rawB f zs)) ∧ Below w.heap.size w w' := by
  have hl := hI.1
  have ea : zs.map (valA f) = zs.map (valV f) := List.map_congr_left fun c _ => by simp [valA, h]
  have en : (⟨(putsL f ((zs.take n).map (valV f))).toArray⟩ : ByteArray) = rawB f zs := by
    rw [List.take_of_length_le (by omega), rawB, ea]
  rw [← en]
  refine rraw_walk f a n cap zs (valV f) (putV f) (fun j => ⟨(putsL f ((zs.take j).map (valV f))).toArray⟩) w hI rfl (fun j hj => ?_) (fun j hj => ?_) hn (fun c w => rvalue_any f c w h) (fun c w => rput94_any f c w h)
  · show (⟨(putsL f ((zs.take (j + 1)).map (valV f))).toArray⟩ : ByteArray) = ⟨(putsL f ((zs.take j).map (valV f))).toArray⟩ ++ putV f (valV f (zs[j]?.getD 0))
    rw [List.take_succ_eq_append_getElem (by omega), List.map_append, List.map_cons, List.map_nil, putsL_snoc, List.getElem?_eq_getElem (by omega), Option.getD_some]
    apply ByteArray.ext
    apply Array.ext'
    simp
  · have z1 : (⟨(putsL f ((zs.take j).map (valV f))).toArray⟩ : ByteArray).size = j * sizeN f := by
      show (putsL f ((zs.take j).map (valV f))).toArray.size = _
      rw [List.size_toArray, putsL_length, List.length_map, List.length_take, Nat.min_eq_left (by omega)]
    show (9223372036854775807 < (⟨(putsL f ((zs.take j).map (valV f))).toArray⟩ : ByteArray).size + (putV f _).size) = False
    rw [z1, putV_size]
    have h4 := size_le f
    have : j * sizeN f ≤ 1099511627776 * 4 := Nat.mul_le_mul (by omega) h4
    exact eq_false (by omega)

end Go.Proofs.Ytodlpofpeoiedaa

/-
  The colours of bytes, by the document.
-/
namespace Go.Proofs.Ytodlpofpeoiedaa
open Go.RowKit Go.Sort

set_option maxHeartbeats 3200000 in
set_option maxRecDepth 100000 in
theorem rrawOf_no (f : Fmt) (a b : Int) (s : ByteArray) (w : World)
    (K31 : Hid (∀ w, Calls Try.prog 31 #[fmtV f, .int .i64 a, .int .i64 b] w fun e w' => e = .returned (.bool false) ∧ Below w.heap.size w w'))
    : Calls Try.prog 29 #[fmtV f, .int .i64 a, .int .i64 b, .string s] w fun e w' => e = .returned (.tuple #[.slice none 0 0, .int .i64 0, .int .i64 1]) ∧ Below w.heap.size w w' := by
  have F0 := hide (Blk.new w 23 (fmtC f))
  have B0 := hide ((Below.refl w.heap.size w).alloc (Nat.le_refl _) (.cells (fmtC f) 23))
  go_enter Try.func29, Try.ntmps29
  go_upto_region 1 with fail
  generalize w.alloc (.cells (fmtC f) 23) = w0 at *
  have f0 : w0.cell? ⟨w.heap.size, 0, none⟩ = some (.int .i64 f.bits) := F0.out.cell 0
  have f1 : w0.cell? ⟨w.heap.size, 1, none⟩ = some (.int .i64 f.depth) := F0.out.cell 1
  have f2 : w0.cell? ⟨w.heap.size, 2, none⟩ = some (.bool f.big) := F0.out.cell 2
  have f3 : w0.cell? ⟨w.heap.size, 3, none⟩ = some (.bool f.tru) := F0.out.cell 3
  have f4 : w0.cell? ⟨w.heap.size, 4, none⟩ = some (.int .i64 f.rm) := F0.out.cell 4
  have f5 : w0.cell? ⟨w.heap.size, 5, none⟩ = some (.int .i64 f.gm) := F0.out.cell 5
  have f6 : w0.cell? ⟨w.heap.size, 6, none⟩ = some (.int .i64 f.bm) := F0.out.cell 6
  have f7 : w0.cell? ⟨w.heap.size, 7, none⟩ = some (.int .i64 f.rs) := F0.out.cell 7
  have f8 : w0.cell? ⟨w.heap.size, 8, none⟩ = some (.int .i64 f.gs) := F0.out.cell 8
  have f9 : w0.cell? ⟨w.heap.size, 9, none⟩ = some (.int .i64 f.bs) := F0.out.cell 9
  go_wp2_with fail
  refine (K31.out _).mono ?_
  rintro e w1 ⟨rfl, hb1⟩
  have B1 := hide (B0.out.trans (hb1.mono B0.out.size))
  clear hb1
  clear f0 f1 f2 f3 f4 f5 f6 f7 f8 f9
  go_wp2_with fail
  go_ret3
  exact ⟨rfl, B1.out⟩

set_option maxHeartbeats 3200000 in
set_option maxRecDepth 100000 in
theorem rrawOf_short (f : Fmt) (a b p : Int) (k n : Nat) (s : ByteArray) (w : World)
    (hp : a * b = p) (hp0 : 0 ≤ p ∧ p ≤ 16777216) (hn : p * k = n) (hn1 : (n : Int) ≤ 67108864) (hb : f.bits / 8 = k) (hb0 : 0 ≤ f.bits) (hb1 : f.bits ≤ 32) (hs : s.size < n)
    (K31 : Hid (∀ w, Calls Try.prog 31 #[fmtV f, .int .i64 a, .int .i64 b] w fun e w' => e = .returned (.bool true) ∧ Below w.heap.size w w'))
    : Calls Try.prog 29 #[fmtV f, .int .i64 a, .int .i64 b, .string s] w fun e w' => e = .returned (.tuple #[.slice none 0 0, .int .i64 0, .int .i64 2]) ∧ Below w.heap.size w w' := by
  have hs' : (s.size : Int) < n := by omega
  have F0 := hide (Blk.new w 23 (fmtC f))
  have B0 := hide ((Below.refl w.heap.size w).alloc (Nat.le_refl _) (.cells (fmtC f) 23))
  go_enter Try.func29, Try.ntmps29
  go_upto_region 1 with fail
  generalize w.alloc (.cells (fmtC f) 23) = w0 at *
  have f0 : w0.cell? ⟨w.heap.size, 0, none⟩ = some (.int .i64 f.bits) := F0.out.cell 0
  have f1 : w0.cell? ⟨w.heap.size, 1, none⟩ = some (.int .i64 f.depth) := F0.out.cell 1
  have f2 : w0.cell? ⟨w.heap.size, 2, none⟩ = some (.bool f.big) := F0.out.cell 2
  have f3 : w0.cell? ⟨w.heap.size, 3, none⟩ = some (.bool f.tru) := F0.out.cell 3
  have f4 : w0.cell? ⟨w.heap.size, 4, none⟩ = some (.int .i64 f.rm) := F0.out.cell 4
  have f5 : w0.cell? ⟨w.heap.size, 5, none⟩ = some (.int .i64 f.gm) := F0.out.cell 5
  have f6 : w0.cell? ⟨w.heap.size, 6, none⟩ = some (.int .i64 f.bm) := F0.out.cell 6
  have f7 : w0.cell? ⟨w.heap.size, 7, none⟩ = some (.int .i64 f.rs) := F0.out.cell 7
  have f8 : w0.cell? ⟨w.heap.size, 8, none⟩ = some (.int .i64 f.gs) := F0.out.cell 8
  have f9 : w0.cell? ⟨w.heap.size, 9, none⟩ = some (.int .i64 f.bs) := F0.out.cell 9
  go_wp2_with fail
  refine (K31.out _).mono ?_
  rintro e w1 ⟨rfl, hbb⟩
  have F1 := hide (F0.out.below hbb)
  have B1 := hide (B0.out.trans (hbb.mono B0.out.size))
  clear hbb
  clear f0 f1 f2 f3 f4 f5 f6 f7 f8 f9
  have f0 : w1.cell? ⟨w.heap.size, 0, none⟩ = some (.int .i64 f.bits) := F1.out.cell 0
  go_wp2_with fail
  go_ret3
  exact ⟨rfl, B1.out⟩

set_option maxHeartbeats 3200000 in
set_option maxRecDepth 100000 in
theorem rrawOf_walk (f : Fmt) (a b p : Int) (k m n : Nat) (s : ByteArray) (q : Nat → Nat) (x y u : Nat → Int) (w : World)
    (hp : a * b = p) (hp0 : 0 ≤ p ∧ p ≤ 16777216) (hn : p * k = n) (hn1 : (n : Int) ≤ 67108864) (hb : f.bits / 8 = k) (hb0 : 0 ≤ f.bits) (hb1 : f.bits ≤ 32) (hs : n ≤ s.size) (hs2 : s.size ≤ 1099511627776) (hk : 1 ≤ k ∧ k ≤ 4)
    (q0 : q 0 = 0) (qs : Hid (∀ j, j < m → q (j + 1) = q j + k)) (ql : Hid (∀ j, j < m → q j < n)) (qm : Hid (q m = n)) (hm : m ≤ 16777216)
    (K31 : Hid (∀ w, Calls Try.prog 31 #[fmtV f, .int .i64 a, .int .i64 b] w fun e w' => e = .returned (.bool true) ∧ Below w.heap.size w w'))
    (K91 : Hid (∀ j, j < m → ∀ w, Calls Try.prog 91 #[fmtV f, .string (s.extract (q j) s.size)] w fun e w' => e = .returned (.tuple #[.int .i64 (x j), .int .i64 (y j)]) ∧ Below w.heap.size w w'))
    (K92 : Hid (∀ j, j < m → ∀ w, Calls Try.prog 92 #[fmtV f, .int .i64 (x j)] w fun e w' => e = .returned (.int .i64 (u j)) ∧ Below w.heap.size w w'))
    : Calls Try.prog 29 #[fmtV f, .int .i64 a, .int .i64 b, .string s] w fun e w' => ∃ v, e = .returned (.tuple #[v, .int .i64 n, .int .i64 0]) ∧ w'.ownsRow w.heap.size 3 1 v m (((List.range m).map u).map (Value.int .i64)) ∧ Below w.heap.size w w' := by
  have hs' : (n : Int) ≤ s.size := by omega
  have hd : decide (s.size < n) = false := decide_eq_false (by omega)
  obtain ⟨i0, hi, hz0, hz1, hz2⟩ := info_parts info3
  have F0 := hide (Blk.new w 23 (fmtC f))
  have B0 := hide ((Below.refl w.heap.size w).alloc (Nat.le_refl _) (.cells (fmtC f) 23))
  have L0 : w.heap.size + 1 ≤ (w.alloc (.cells (fmtC f) 23)).heap.size := by rw [World.size_alloc]; exact Nat.le_refl _
  go_enter Try.func29, Try.ntmps29
  go_upto_region 1 with fail
  generalize w.alloc (.cells (fmtC f) 23) = w0 at *
  have f0 : w0.cell? ⟨w.heap.size, 0, none⟩ = some (.int .i64 f.bits) := F0.out.cell 0
  have f1 : w0.cell? ⟨w.heap.size, 1, none⟩ = some (.int .i64 f.depth) := F0.out.cell 1
  have f2 : w0.cell? ⟨w.heap.size, 2, none⟩ = some (.bool f.big) := F0.out.cell 2
  have f3 : w0.cell? ⟨w.heap.size, 3, none⟩ = some (.bool f.tru) := F0.out.cell 3
  have f4 : w0.cell? ⟨w.heap.size, 4, none⟩ = some (.int .i64 f.rm) := F0.out.cell 4
  have f5 : w0.cell? ⟨w.heap.size, 5, none⟩ = some (.int .i64 f.gm) := F0.out.cell 5
  have f6 : w0.cell? ⟨w.heap.size, 6, none⟩ = some (.int .i64 f.bm) := F0.out.cell 6
  have f7 : w0.cell? ⟨w.heap.size, 7, none⟩ = some (.int .i64 f.rs) := F0.out.cell 7
  have f8 : w0.cell? ⟨w.heap.size, 8, none⟩ = some (.int .i64 f.gs) := F0.out.cell 8
  have f9 : w0.cell? ⟨w.heap.size, 9, none⟩ = some (.int .i64 f.bs) := F0.out.cell 9
  go_wp2_with fail
  refine (K31.out _).mono ?_
  rintro e w1 ⟨rfl, hbb⟩
  have F1 := hide (F0.out.below hbb)
  have B1 := hide (B0.out.trans (hbb.mono B0.out.size))
  have L1 := Nat.le_trans L0 hbb.size
  clear hbb
  clear f0 f1 f2 f3 f4 f5 f6 f7 f8 f9
  have f0 : w1.cell? ⟨w.heap.size, 0, none⟩ = some (.int .i64 f.bits) := F1.out.cell 0
  clear F0 B0 L0
  have Q0 := hide q0
  clear q0
  go_wp2_with fail
  clear f0
  rw [hb]
  go_loopw [13, 14, 15, 16] (fun v i _ _ wr => ∃ (j Q : Nat) (V : Value), V = v ∧ Q = q j ∧ j ≤ m ∧ i = .int .i64 Q ∧ Hid (wr.ownsRow (w.heap.size + 1) 3 1 V j (((List.range j).map u).map (Value.int .i64))) ∧ Hid (Blk w.heap.size 23 (fmtC f) wr) ∧ Hid (Below w.heap.size w wr) ∧ w.heap.size + 1 ≤ wr.heap.size) (fun _ i _ _ _ => n - (intOf i).toNat)
  case atStart => exact ⟨0, 0, _, rfl, Q0.out.symm, by omega, rfl, hide (World.ownsRow_nil _ _ _ _), F1, B1, L1⟩
  case round =>
    obtain ⟨j, Q, v, rfl, hQ, hj, rfl, hown, hF, hB, hsz⟩ := hrel
    have HQ := hide hQ
    clear hQ
    by_cases hlt : j < m
    · have hqn : Q < n := by rw [HQ.out]; exact ql.out j hlt
      have hqs : Q ≤ s.size := by omega
      have hqs' : (Q : Int) ≤ s.size := by omega
      have hq1 : Hid (Q + k = q (j + 1)) := by rw [HQ.out]; exact (qs.out j hlt).symm
      have KC : Hid (∀ w, Calls Try.prog 91 #[fmtV f, .string (s.extract Q s.size)] w fun e w' => e = .returned (.tuple #[.int .i64 (x j), .int .i64 (y j)]) ∧ Below w.heap.size w w') := by
        rw [HQ.out]
        exact K91.out j hlt
      have KD := hide (K92.out j hlt)
      have et : Hid (((List.range (j + 1)).map u).map (Value.int .i64) = ((List.range j).map u).map (Value.int .i64) ++ [.int .i64 (u j)]) := by
        refine hide ?_
        rw [List.range_succ, List.map_append, List.map_append]
        rfl
      generalize x j = xx at *
      generalize y j = yy at *
      generalize u j = uu at *
      clear HQ
      go_wp2_with fail
      have F2 := hide (show Blk w.heap.size 23 (fmtC f) wr.drew from hF.out)
      have O2 := hide (show wr.drew.ownsRow (w.heap.size + 1) 3 1 v j (((List.range j).map u).map (Value.int .i64)) from hown.out)
      have B2 := hide (show Below w.heap.size w wr.drew from hB.out.drew)
      have LB : w.heap.size ≤ wr.drew.heap.size := Nat.le_trans (Nat.le_succ _) hsz
      have LA : w.heap.size + 1 ≤ wr.drew.heap.size := hsz
      refine plan_region [(0, true), (1, true), (2, true), (3, true), (4, false), (5, true), (6, true), (7, true), (8, true), (9, true)] (fun w' => Blk w.heap.size 23 (fmtC f) w') [] rfl (by kernel_rfl) (fun _ _ d _ _ h => by cases d <;> exact h) ?_
      generalize wr.drew = w2 at *
      refine plan_v (i := 0) (N := (some 41)) (v := ?v11x0) (a' := ?b11x0) rfl rfl F2.out (by rfl) ?hy11x0 ?ha11x0 ?_
      case hy11x0 =>
        intro w' hS'
        have f0 : w'.cell? ⟨w.heap.size, 0, none⟩ = some (.int .i64 f.bits) := hS'.cell 0
        have f1 : w'.cell? ⟨w.heap.size, 1, none⟩ = some (.int .i64 f.depth) := hS'.cell 1
        have f2 : w'.cell? ⟨w.heap.size, 2, none⟩ = some (.bool f.big) := hS'.cell 2
        have f3 : w'.cell? ⟨w.heap.size, 3, none⟩ = some (.bool f.tru) := hS'.cell 3
        have f4 : w'.cell? ⟨w.heap.size, 4, none⟩ = some (.int .i64 f.rm) := hS'.cell 4
        have f5 : w'.cell? ⟨w.heap.size, 5, none⟩ = some (.int .i64 f.gm) := hS'.cell 5
        have f6 : w'.cell? ⟨w.heap.size, 6, none⟩ = some (.int .i64 f.bm) := hS'.cell 6
        have f7 : w'.cell? ⟨w.heap.size, 7, none⟩ = some (.int .i64 f.rs) := hS'.cell 7
        have f8 : w'.cell? ⟨w.heap.size, 8, none⟩ = some (.int .i64 f.gs) := hS'.cell 8
        have f9 : w'.cell? ⟨w.heap.size, 9, none⟩ = some (.int .i64 f.bs) := hS'.cell 9
        go_simp
        with_reducible rfl
      case ha11x0 =>
        simp only [Act.put, List.setIfInBounds_toArray, List.set_cons_zero, List.set_cons_succ]
        rfl
      refine plan_v (i := 1) (N := (some 42)) (v := ?v11x1) (a' := ?b11x1) rfl rfl F2.out (by rfl) ?hy11x1 ?ha11x1 ?_
      case hy11x1 =>
        intro w' hS'
        go_simp
        with_reducible rfl
      case ha11x1 =>
        simp only [Act.put, List.setIfInBounds_toArray, List.set_cons_zero, List.set_cons_succ]
        rfl
      refine plan_v (i := 2) (N := (some 43)) (v := ?v11x2) (a' := ?b11x2) rfl rfl F2.out (by rfl) ?hy11x2 ?ha11x2 ?_
      case hy11x2 =>
        intro w' hS'
        go_simp
        with_reducible rfl
      case ha11x2 =>
        simp only [Act.put, List.setIfInBounds_toArray, List.set_cons_zero, List.set_cons_succ]
        rfl
      refine plan_v (i := 3) (N := (some 44)) (v := ?v11x3) (a' := ?b11x3) rfl rfl F2.out (by rfl) ?hy11x3 ?ha11x3 ?_
      case hy11x3 =>
        intro w' hS'
        go_simp
        with_reducible rfl
      case ha11x3 =>
        simp only [Act.put, List.setIfInBounds_toArray, List.set_cons_zero, List.set_cons_succ]
        rfl
      refine plan_e (i := 4) rfl (by rfl) (fun K hK => ?_)
      go_simp
      refine (KC.out _).mono ?_
      rintro e w3 ⟨rfl, hb⟩
      have F3 := hide (F2.out.below hb)
      have B3 := hide (B2.out.trans (hb.mono LB))
      have O3 := hide (own_below O2.out hb)
      have LB3 := Nat.le_trans LB hb.size
      have LA3 := Nat.le_trans LA hb.size
      clear hb
      refine hK _ _ (fun _ => F3.out) ?_
      clear hK K
      refine plan_v (i := 5) (N := (some 40)) (v := ?v11x5) (a' := ?b11x5) rfl rfl F3.out (by rfl) ?hy11x5 ?ha11x5 ?_
      case hy11x5 =>
        intro w' hS'
        go_simp
        with_reducible rfl
      case ha11x5 =>
        simp only [Act.put, List.setIfInBounds_toArray, List.set_cons_zero, List.set_cons_succ]
        rfl
      refine plan_v (i := 6) (N := (some 46)) (v := ?v11x6) (a' := ?b11x6) rfl rfl F3.out (by rfl) ?hy11x6 ?ha11x6 ?_
      case hy11x6 =>
        intro w' hS'
        go_simp
        with_reducible rfl
      case ha11x6 =>
        simp only [Act.put, List.setIfInBounds_toArray, List.set_cons_zero, List.set_cons_succ]
        rfl
      refine plan_v (i := 7) (N := (some 47)) (v := ?v11x7) (a' := ?b11x7) rfl rfl F3.out (by rfl) ?hy11x7 ?ha11x7 ?_
      case hy11x7 =>
        intro w' hS'
        go_simp
        with_reducible rfl
      case ha11x7 =>
        simp only [Act.put, List.setIfInBounds_toArray, List.set_cons_zero, List.set_cons_succ]
        rfl
      refine plan_v (i := 8) (N := (some 15)) (v := ?v11x8) (a' := ?b11x8) rfl rfl F3.out (by rfl) ?hy11x8 ?ha11x8 ?_
      case hy11x8 =>
        intro w' hS'
        go_simp
        with_reducible rfl
      case ha11x8 =>
        simp only [Act.put, List.setIfInBounds_toArray, List.set_cons_zero, List.set_cons_succ]
        rfl
      refine plan_v (i := 9) (N := (some 16)) (v := ?v11x9) (a' := ?b11x9) rfl rfl F3.out (by rfl) ?hy11x9 ?ha11x9 ?_
      case hy11x9 =>
        intro w' hS'
        go_simp
        with_reducible rfl
      case ha11x9 =>
        simp only [Act.put, List.setIfInBounds_toArray, List.set_cons_zero, List.set_cons_succ]
        rfl
      refine plan_done ?_
      have f0 : w3.cell? ⟨w.heap.size, 0, none⟩ = some (.int .i64 f.bits) := F3.out.cell 0
      have f1 : w3.cell? ⟨w.heap.size, 1, none⟩ = some (.int .i64 f.depth) := F3.out.cell 1
      have f2 : w3.cell? ⟨w.heap.size, 2, none⟩ = some (.bool f.big) := F3.out.cell 2
      have f3 : w3.cell? ⟨w.heap.size, 3, none⟩ = some (.bool f.tru) := F3.out.cell 3
      have f4 : w3.cell? ⟨w.heap.size, 4, none⟩ = some (.int .i64 f.rm) := F3.out.cell 4
      have f5 : w3.cell? ⟨w.heap.size, 5, none⟩ = some (.int .i64 f.gm) := F3.out.cell 5
      have f6 : w3.cell? ⟨w.heap.size, 6, none⟩ = some (.int .i64 f.bm) := F3.out.cell 6
      have f7 : w3.cell? ⟨w.heap.size, 7, none⟩ = some (.int .i64 f.rs) := F3.out.cell 7
      have f8 : w3.cell? ⟨w.heap.size, 8, none⟩ = some (.int .i64 f.gs) := F3.out.cell 8
      have f9 : w3.cell? ⟨w.heap.size, 9, none⟩ = some (.int .i64 f.bs) := F3.out.cell 9
      go_wp2_with fail
      refine (KD.out _).mono ?_
      rintro e w4 ⟨rfl, hb4⟩
      have F4 := hide (F3.out.below hb4)
      have B4 := hide (B3.out.trans (hb4.mono LB3))
      have O4 := own_below O3.out hb4
      have LB4 := Nat.le_trans LB3 hb4.size
      have LA4 := Nat.le_trans LA3 hb4.size
      clear hb4
      clear f0 f1 f2 f3 f4 f5 f6 f7 f8 f9
      go_wp2_with (at_builtin; refine wpList_append_own _ rfl _ _ 32 rfl (w.heap.size + 1) 3 i0 (.int .i64 0) 1 8 Try.underlying32 hi hz0 hz1 hz2 rfl (by decide) _ _ _ rfl (O4.alloc _) ⟨w4.heap.size, 0, none⟩ 1 1 [.int .i64 uu] rfl rfl ?c1 ?c2 ?c3 ?c4 ?c5 ?_)
      case c1 =>
        intro j u hj
        match j, hj with
        | 0, hj => simp at hj; subst hj; simp [Addr.add]
      case c2 => intro u hu; simp at hu; subst hu; rfl
      case c3 => unfold maxLen; omega
      case c4 => omega
      case c5 => simp; omega
      intro v5 w5 hown5 hg5 _
      have hgrow5 : (w4.alloc (.cells #[.int .i64 uu] 3)).grownBy w5 v.ownBlock := hg5
      clear hg5
      have hgb : ∀ k, v.ownBlock = some k → w.heap.size + 1 ≤ k := fun k e => (O4.lt k e).1
      have F5 : Hid (Blk w.heap.size 23 (fmtC f) w5) := hide ((hgrow5.block w.heap.size (by simp; omega) (fun e => by have := hgb _ e.symm; omega)).trans (F4.out.alloc (.cells #[.int .i64 uu] 3)))
      have B5 := hide (Below.grown (B4.out.alloc LB4 (.cells #[.int .i64 uu] 3)) hgrow5 (by simp; omega) (fun k e => by have := hgb k e; omega))
      have O5 : Hid (w5.ownsRow (w.heap.size + 1) 3 1 v5 (j + 1) (((List.range (j + 1)).map u).map (Value.int .i64))) := hide (by rw [et.out, List.map_map]; exact hown5)
      have LA5 : w.heap.size + 1 ≤ w5.heap.size := Nat.le_trans (by simp; omega) hgrow5.size
      clear hown5 hgrow5 hgb O4
      go_wp2_with fail
      go_roundw
      case rel => exact ⟨j + 1, Q + k, _, rfl, hq1.out, by omega, by go_num, O5, F5, B5, LA5⟩
      case measure => simp [intOf]; omega
    · obtain rfl : j = m := by omega
      obtain rfl : Q = n := by rw [HQ.out, qm.out]
      obtain ⟨a', cap', rfl⟩ := own_slice hown.out
      clear HQ
      go_wp2_with fail
      go_ret3
      exact ⟨_, rfl, own_base hown.out (Nat.le_succ _), hB.out⟩

/-- What the document's RawOf reads of a text are the first bytes of what is left. -/
theorem getV_ext (f : Fmt) (k i n : Nat) (s : ByteArray) (hn : n ≤ s.size) (hi : i + k ≤ n) : getV f k (s.extract i s.size) = getV f k (s.extract i n) ∧ getE f k (s.extract i s.size) = getE f k (s.extract i n) := by
  have z1 : (s.extract i s.size).size = s.size - i := by rw [ByteArray.size_extract]; omega
  have z2 : (s.extract i n).size = n - i := by rw [ByteArray.size_extract]; omega
  have e : getE f k (s.extract i s.size) = getE f k (s.extract i n) := by
    unfold getE
    rw [z1, z2, if_neg (show ¬ s.size - i < k by omega), if_neg (show ¬ n - i < k by omega)]
  have l : (s.extract i s.size).data.toList.take k = (s.extract i n).data.toList.take k := by
    rw [ByteArray.data_extract, ByteArray.data_extract, Array.toList_extract, Array.toList_extract, List.extract_eq_take_drop, List.extract_eq_take_drop, List.take_take, List.take_take]
    congr 1
    omega
  refine ⟨?_, e⟩
  unfold getV
  rw [e, l]

/-- miradorref16.RawOf, where there are enough. -/
theorem rrawOf_yes (f : Fmt) (a b : Int) (m : Nat) (s : ByteArray) (w : World) (h : fitsB f a b = true) (hm : a * b = m) (hs : m * sizeN f ≤ s.size) (hs2 : s.size ≤ 1099511627776) :
    Calls Try.prog 29 #[fmtV f, .int .i64 a, .int .i64 b, .string s] w fun e w' => ∃ v, e = .returned (.tuple #[v, .int .i64 ((m * sizeN f : Nat) : Int), .int .i64 0]) ∧ w'.ownsRow w.heap.size 3 1 v m ((pixL f s m).map (Value.int .i64)) ∧ Below w.heap.size w w' := by
  obtain ⟨hv, ha, hb⟩ := fits_parts h
  obtain ⟨m', hm', hl⟩ := area ha hb
  obtain rfl : m = m' := by omega
  obtain ⟨h1, h2, h3⟩ := bits_bd hv
  have K31 := fun w => rfits_any f a b w
  rw [h] at K31
  obtain ⟨_, hk⟩ := size_valid hv
  have hml : m * sizeN f ≤ 67108864 := Nat.le_trans (Nat.mul_le_mul hl (size_le f)) (by decide)
  refine rrawOf_walk f a b m (sizeN f) m (m * sizeN f) s (fun j => j * sizeN f) (fun j => getV f (sizeN f) (s.extract (j * sizeN f) (m * sizeN f))) (fun j => getE f (sizeN f) (s.extract (j * sizeN f) (m * sizeN f))) _ w
    hm (by omega) (by simp) (by omega) h1 h2 h3 hs hs2 (by omega) (by simp) (fun j _ => Nat.succ_mul _ _) (fun j hj => ?_) rfl hl K31 (fun j hj w => ?_) (fun j _ w => rcolour_any f _ w hv)
  · have : j * sizeN f + sizeN f ≤ m * sizeN f := by rw [← Nat.succ_mul]; exact Nat.mul_le_mul_right _ hj
    show j * sizeN f < m * sizeN f
    omega
  · have hj2 : j * sizeN f + sizeN f ≤ m * sizeN f := by rw [← Nat.succ_mul]; exact Nat.mul_le_mul_right _ hj
    obtain ⟨e1, e2⟩ := getV_ext f (sizeN f) (j * sizeN f) (m * sizeN f) s hs hj2
    have := rget91_any f (s.extract (j * sizeN f) s.size) w hv
    rw [e1, e2] at this
    exact this

end Go.Proofs.Ytodlpofpeoiedaa
