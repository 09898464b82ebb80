/-
  The document's Row: are two rows the same?
-/
import Derived.Test.YtodlpofpeoiedaaBH
namespace Go.Proofs.Ytodlpofpeoiedaa
open Go.RowKit Go.Sort

/-- What a row of numbers reads as, for a reader: nil, or cells. -/
def IsInts (w : World) (ad : Option Addr) (n : Nat) (xs : List Int) : Prop := xs.length = n ∧ (n = 0 ∨ ∃ g o, ad = some ⟨g, o, none⟩ ∧ ∀ j, j < n → w.cell? ⟨g, o + j, none⟩ = some (.int .i64 (xs.getD j 0)))

set_option maxHeartbeats 1600000 in
set_option maxRecDepth 100000 in
theorem row_len (a1 a2 : Option Addr) (n1 n2 c1 c2 : Nat) (w : World) (h : n1 ≠ n2) :
    Calls Try.prog 30 #[.slice a1 n1 c1, .slice a2 n2 c2] w fun e w' => e = .returned (.bool false) ∧ Below w.heap.size w w' := by
  have h' : ((n1 : Int) == (n2 : Int)) = false := by simp; omega
  go_enter Try.func30, Try.ntmps30
  go_wp2_with fail
  go_ret
  exact ⟨rfl, Below.refl _ _⟩

set_option maxHeartbeats 1600000 in
set_option maxRecDepth 100000 in
theorem row_walk (g o g2 o2 n c1 c2 : Nat) (xs ys : List Int) (w : World) (hxl : xs.length = n) (hyl : ys.length = n) (hn : n ≤ 9223372036854775807) (hg : g < w.heap.size) (hg2 : g2 < w.heap.size)
    (hx : Hid (∀ j, j < n → w.cell? ⟨g, o + j, none⟩ = some (.int .i64 (xs.getD j 0)))) (hy : Hid (∀ j, j < n → w.cell? ⟨g2, o2 + j, none⟩ = some (.int .i64 (ys.getD j 0)))) :
    Calls Try.prog 30 #[.slice (some ⟨g, o, none⟩) n c1, .slice (some ⟨g2, o2, none⟩) n c2] w fun e w' => e = .returned (.bool (decide (xs = ys))) ∧ Below w.heap.size w w' := by
  go_enter Try.func30, Try.ntmps30
  go_wp2_with fail
  go_loopw [5] (fun i wr => ∃ j : Nat, j ≤ n ∧ i = .int .i64 j ∧ Hid (xs.take j = ys.take j) ∧ Hid (Below w.heap.size w wr)) (fun i _ => n - (intOf i).toNat)
  case atStart => exact ⟨0, by omega, rfl, hide rfl, hide (Below.refl _ _)⟩
  case round =>
    obtain ⟨j, hj, rfl, he, hB⟩ := hrel
    by_cases hlt : j < n
    · have hx1 := (hB.out.cell (p := ⟨g, o + j, none⟩) hg).trans (hx.out j hlt)
      have hy1 := (hB.out.cell (p := ⟨g2, o2 + j, none⟩) hg2).trans (hy.out j hlt)
      have E1 : Hid (xs.getD j 0 = ys.getD j 0 → xs.take (j + 1) = ys.take (j + 1)) := fun e => by
        rw [List.take_succ_eq_append_getElem (by omega), List.take_succ_eq_append_getElem (by omega), he.out]
        simp only [List.getD_eq_getElem?_getD, List.getElem?_eq_getElem (show j < xs.length by omega), List.getElem?_eq_getElem (show j < ys.length by omega), Option.getD_some] at e
        rw [e]
      have E2 : Hid (xs.getD j 0 ≠ ys.getD j 0 → decide (xs = ys) = false) := fun e => decide_eq_false (fun e2 => e (by rw [e2]))
      generalize xs.getD j 0 = p at *
      generalize ys.getD j 0 = q at *
      go_upto_region 6 with fail
      have hx2 : wr.drew.cell? ⟨g, o + j, none⟩ = some (.int .i64 p) := hx1
      have hy2 : wr.drew.cell? ⟨g2, o2 + j, none⟩ = some (.int .i64 q) := hy1
      refine plan_region [(0, true), (1, true), (2, true), (3, true), (4, true), (5, true), (6, true), (7, true), (8, true)] (fun w' => w'.cell? ⟨g, o + j, none⟩ = some (.int .i64 p) ∧ w'.cell? ⟨g2, o2 + j, none⟩ = some (.int .i64 q)) [] rfl (by kernel_rfl) (fun _ _ d _ _ h => by cases d <;> exact h) ?_
      refine plan_v (i := 0) (N := (some 17)) (v := ?v6x0) (a' := ?b6x0) rfl rfl ⟨hx2, hy2⟩ (by rfl) ?hy6x0 ?ha6x0 ?_
      case hy6x0 =>
        intro w' hS'
        go_simp
        with_reducible rfl
      case ha6x0 =>
        simp only [Act.put, List.setIfInBounds_toArray, List.set_cons_zero, List.set_cons_succ]
        rfl
      refine plan_v (i := 1) (N := (some 18)) (v := ?v6x1) (a' := ?b6x1) rfl rfl ⟨hx2, hy2⟩ (by rfl) ?hy6x1 ?ha6x1 ?_
      case hy6x1 =>
        intro w' hS'
        go_simp
        with_reducible rfl
      case ha6x1 =>
        simp only [Act.put, List.setIfInBounds_toArray, List.set_cons_zero, List.set_cons_succ]
        rfl
      refine plan_v (i := 2) (N := (some 19)) (v := ?v6x2) (a' := ?b6x2) rfl rfl ⟨hx2, hy2⟩ (by rfl) ?hy6x2 ?ha6x2 ?_
      case hy6x2 =>
        intro w' hS'
        go_simp
        with_reducible rfl
      case ha6x2 =>
        simp only [Act.put, List.setIfInBounds_toArray, List.set_cons_zero, List.set_cons_succ]
        rfl
      refine plan_v (i := 3) (N := (some 20)) (v := ?v6x3) (a' := ?b6x3) rfl rfl ⟨hx2, hy2⟩ (by rfl) ?hy6x3 ?ha6x3 ?_
      case hy6x3 =>
        intro w' hS'
        have f0 := hS'.1
        go_simp
        with_reducible rfl
      case ha6x3 =>
        simp only [Act.put, List.setIfInBounds_toArray, List.set_cons_zero, List.set_cons_succ]
        rfl
      refine plan_v (i := 4) (N := (some 21)) (v := ?v6x4) (a' := ?b6x4) rfl rfl ⟨hx2, hy2⟩ (by rfl) ?hy6x4 ?ha6x4 ?_
      case hy6x4 =>
        intro w' hS'
        go_simp
        with_reducible rfl
      case ha6x4 =>
        simp only [Act.put, List.setIfInBounds_toArray, List.set_cons_zero, List.set_cons_succ]
        rfl
      refine plan_v (i := 5) (N := (some 22)) (v := ?v6x5) (a' := ?b6x5) rfl rfl ⟨hx2, hy2⟩ (by rfl) ?hy6x5 ?ha6x5 ?_
      case hy6x5 =>
        intro w' hS'
        go_simp
        with_reducible rfl
      case ha6x5 =>
        simp only [Act.put, List.setIfInBounds_toArray, List.set_cons_zero, List.set_cons_succ]
        rfl
      refine plan_v (i := 6) (N := (some 23)) (v := ?v6x6) (a' := ?b6x6) rfl rfl ⟨hx2, hy2⟩ (by rfl) ?hy6x6 ?ha6x6 ?_
      case hy6x6 =>
        intro w' hS'
        go_simp
        with_reducible rfl
      case ha6x6 =>
        simp only [Act.put, List.setIfInBounds_toArray, List.set_cons_zero, List.set_cons_succ]
        rfl
      refine plan_v (i := 7) (N := (some 24)) (v := ?v6x7) (a' := ?b6x7) rfl rfl ⟨hx2, hy2⟩ (by rfl) ?hy6x7 ?ha6x7 ?_
      case hy6x7 =>
        intro w' hS'
        have f0 := hS'.2
        go_simp
        with_reducible rfl
      case ha6x7 =>
        simp only [Act.put, List.setIfInBounds_toArray, List.set_cons_zero, List.set_cons_succ]
        rfl
      refine plan_v (i := 8) (N := (some 25)) (v := ?v6x8) (a' := ?b6x8) rfl rfl ⟨hx2, hy2⟩ (by rfl) ?hy6x8 ?ha6x8 ?_
      case hy6x8 =>
        intro w' hS'
        go_simp
        with_reducible rfl
      case ha6x8 =>
        simp only [Act.put, List.setIfInBounds_toArray, List.set_cons_zero, List.set_cons_succ]
        rfl
      refine plan_done ?_
      by_cases hpq : p = q
      · have e := E1.out hpq
        subst hpq
        have he' := hide e
        have hb' := hide (show Below w.heap.size w wr.drew from hB.out.drew)
        clear e
        go_wp2_with fail
        go_roundw
        case rel => exact ⟨j + 1, by omega, by go_num, he', hb'⟩
        case measure => simp [intOf]; omega
      · have hb : (p != q) = true := bne_iff_ne.2 hpq
        have hf := hide (E2.out hpq)
        have hb' := hide (show Below w.heap.size w wr.drew from hB.out.drew)
        go_wp2_with fail
        go_ret
        exact ⟨by rw [hf.out]; rfl, hb'.out⟩
    · obtain rfl : j = n := by omega
      have hd : Hid (decide (xs = ys) = true) := decide_eq_true (by
        have := he.out
        rwa [List.take_of_length_le (by omega), List.take_of_length_le (by omega)] at this)
      go_wp2_with fail
      go_ret
      exact ⟨by rw [hd.out]; rfl, hB.out⟩

end Go.Proofs.Ytodlpofpeoiedaa
