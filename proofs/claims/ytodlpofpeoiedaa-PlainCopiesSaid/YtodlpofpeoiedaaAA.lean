/-
  The contract of format.put: a number's lowest bytes, by the format's order.
-/
import Derived.Test.YtodlpofpeoiedaaQ4
import Derived.OwnWalk
namespace Go.Proofs.Ytodlpofpeoiedaa
open Go.RowKit Go.Sort

theorem leI_snoc (k : Nat) : ∀ n : Int, leI (k + 1) n = leI k n ++ [n / 256 ^ k % 256] := by
  induction k with
  | zero => intro n; simp [leI]
  | succ k ih =>
    intro n
    rw [leI, ih (n / 256), leI]
    have : n / 256 / 256 ^ k = n / 256 ^ (k + 1) := by
      rw [Int.pow_succ, Int.mul_comm, Int.ediv_ediv_of_nonneg (by decide)]
    rw [this]
    rfl

theorem leI_snoc2 (k : Nat) (n : Int) : leI (k + 1) n = leI k n ++ [n / 2 ^ (8 * k) % 256] := by
  rw [leI_snoc, Int.pow_mul]
  rfl

theorem info5 : (Try.prog.info? 5).map (fun i => (i.zero, i.size, i.bytes)) = some (some (.int .u8 0), 1, 1) := by kernel_rfl

/-- The bytes by the format's order. -/
def ordB (big : Bool) (k : Nat) (n : Int) : ByteArray := if big then beB k n else leB k n

section
variable {w : World} {base g cap : Nat} {xs : List Int}
theorem own_cell (h : w.ownsRow base 5 1 (.slice (some ⟨g, 0, none⟩) xs.length cap) xs.length (xs.map encU8)) (j : Nat) (hj : j < xs.length) : w.cell? ⟨g, 0 + j, none⟩ = some (.int .u8 (xs.getD j 0)) := by
  rw [Nat.zero_add, h.cellAt j (by omega), List.getElem?_map, List.getElem?_eq_getElem hj, List.getD_eq_getElem?_getD, List.getElem?_eq_getElem hj]
  rfl

theorem own_conv (h : w.ownsRow base 5 1 (.slice (some ⟨g, 0, none⟩) xs.length cap) xs.length (xs.map encU8)) :
    (convert 114 9 (.slice (some ⟨g, 0, none⟩) xs.length cap)).run Try.prog w = .ok (.string (strOfNums xs)) w :=
  run_convert_bytes_arg (P := Try.prog) w 114 5 Try.underlying114 Try.underlying5 g 0 _ _ xs rfl (fun i hi => own_cell h i hi) 9 Try.underlying9

theorem own_rev (h : w.ownsRow base 5 1 (.slice (some ⟨g, 0, none⟩) xs.length cap) xs.length (xs.map encU8)) (hx : xs.length ≤ 9223372036854775807) :
    Calls Try.prog 140 #[.slice (some ⟨g, 0, none⟩) xs.length cap] w fun e w' => e = .returned (.tuple #[]) ∧ Below base w w' ∧
      (convert 114 9 (.slice (some ⟨g, 0, none⟩) xs.length cap)).run Try.prog w' = .ok (.string (strOfNums xs.reverse)) w' := by
  have hH : Holds encU8 w g 0 xs.toArray := by
    intro j hj
    have hj' : j < xs.length := by simpa using hj
    refine ⟨?_, by rw [Nat.zero_add]; exact h.frozenAt j⟩
    rw [own_cell h j hj', getElem!_pos xs.toArray j hj, List.getD_eq_getElem?_getD, List.getElem?_eq_getElem hj']
    rfl
  have hr := reverse_any g 0 cap xs.toArray w hH (by simpa using hx)
  rw [List.size_toArray] at hr
  refine hr.mono fun e w' ⟨he, n, hw⟩ => ⟨he, ?_, ?_⟩
  · rw [hw]
    exact putRow_below _ _ _ _ _ _ _ (h.lt g rfl).1
  · have hh : Holds encU8 w' g 0 xs.toArray.reverse := by
      rw [hw]
      exact holds_putRow encU8 _ _ 0 _ _ (holds_ahead encU8 _ n _ 0 _ hH) (by simp)
    refine run_convert_bytes_arg (P := Try.prog) w' 114 5 Try.underlying114 Try.underlying5 g 0 _ _ xs.reverse (by rw [List.length_reverse]) ?_ 9 Try.underlying9
    intro i hi
    have := (hh i (by simpa using hi)).1
    rw [this, getElem!_pos _ _ (by simpa using hi), List.getD_eq_getElem?_getD, List.getElem?_eq_getElem (by simpa using hi), Option.getD_some]
    simp
end

set_option maxHeartbeats 1600000 in
set_option maxRecDepth 100000 in
theorem put96_any (f : Fmt) (k : Nat) (n : Int) (w : World) (hk : 1 ≤ k ∧ k ≤ 8) :
    Calls Try.prog 96 #[fmtV f, .int .i64 k, .int .i64 n] w fun e w' => e = .returned (.string (ordB f.big k n)) ∧ Below w.heap.size w w' := by
  obtain ⟨i0, hi, hz0, hz1, hz2⟩ := info_parts info5
  go_enter Try.func96, Try.ntmps96
  go_wp2_with fail
  go_loopw [7, 10] (fun b i wr => ∃ j : Nat, j ≤ k ∧ i = .int .i64 j ∧ wr.ownsRow (w.heap.size + 1) 5 1 b j ((leI j n).map encU8) ∧ wr.cell? ⟨w.heap.size, 2, none⟩ = some (.bool f.big) ∧ Below w.heap.size w wr ∧ w.heap.size < wr.heap.size) (fun _ i _ => k - (intOf i).toNat)
  case atStart =>
    refine ⟨0, by omega, rfl, World.ownsRow_nil _ _ _ _, ?_, (Below.refl _ _).alloc (Nat.le_refl _) _, by simp⟩
    rw [World.cell?_alloc_at _ _ _ _ rfl]
    rfl
  case round =>
    obtain ⟨j, hj, rfl, hown, hbig, hbel, hsz⟩ := hrel
    have HB := hide hbel
    clear hbel
    by_cases hlt : j < k
    · go_wp2_with (at_builtin; refine wpList_append_own _ rfl _ _ 114 rfl (w.heap.size + 1) 5 i0 (.int .u8 0) 1 1 Try.underlying114 hi hz0 hz1 hz2 rfl (by decide) _ _ _ rfl (hown.alloc _) ⟨wr.heap.size, 0, none⟩ 1 1 [.int .u8 (n / 2 ^ (8 * j) % 256)] rfl rfl ?c1 ?c2 ?c3 ?c4 ?c5 ?_)
      case c1 =>
        intro j u hj
        match j, hj with
        | 0, hj => simp at hj; subst hj; simp [Addr.add]
      case c2 => intro u hu; simp at hu; subst hu; rfl
      case c3 => unfold maxLen; omega
      case c4 => omega
      case c5 => simp; omega
      intro v' w1 hown' hgrow _
      have hbig' := hide (hgrow.cell (a := ⟨w.heap.size, 2, none⟩) ((World.cell?_alloc_past _ _ _ hsz).trans hbig) (fun e => absurd (hown.lt w.heap.size e.symm).1 (by omega)))
      have hz' : w.heap.size < w1.heap.size := Nat.lt_of_lt_of_le (by simp; omega) hgrow.size
      have HB' := hide (Below.grown (HB.out.alloc (Nat.le_of_lt hsz) _) hgrow (by simp; omega) (fun k e => by have := (hown.lt _ e).1; omega))
      have HO' := hide hown'
      clear hgrow hown hown' hbig
      go_wp2
      go_roundw
      case rel =>
        refine ⟨j + 1, by omega, by go_num, ?_, hbig'.out, HB'.out, hz'⟩
        rw [leI_snoc2, List.map_append]
        exact HO'.out
      case measure => simp [intOf]; omega
    · obtain rfl : j = k := by omega
      obtain ⟨g, cap, cur, rfl, hbg, _⟩ := hown.2.resolve_left (by rintro ⟨_, h⟩; omega)
      have hl := leI_length j n
      have hconv : (convert 114 9 (.slice (some ⟨g, 0, none⟩) j cap)).run Try.prog wr = .ok (.string (leB j n)) wr := by
        have := own_conv (w := wr) (base := w.heap.size + 1) (g := g) (cap := cap) (xs := leI j n) (by rw [hl]; exact hown)
        rw [hl] at this
        exact this
      have hrev : Calls Try.prog 140 #[.slice (some ⟨g, 0, none⟩) j cap] wr fun e w' => e = .returned (.tuple #[]) ∧ Below (w.heap.size + 1) wr w' ∧ (convert 114 9 (.slice (some ⟨g, 0, none⟩) j cap)).run Try.prog w' = .ok (.string (beB j n)) w' := by
        have := own_rev (w := wr) (base := w.heap.size + 1) (g := g) (cap := cap) (xs := leI j n) (by rw [hl]; exact hown) (by omega)
        rw [hl] at this
        exact this
      have HR := hide hrev
      clear hrev hown hl
      cases hb : f.big with
      | false =>
        rw [hb] at hbig
        go_wp2_with fail
        go_ret
        exact ⟨by rw [hb]; rfl, HB.out⟩
      | true =>
        rw [hb] at hbig
        clear hconv
        go_wp2_with fail
        refine HR.out.mono ?_
        rintro e w1 ⟨rfl, hb1, hconv⟩
        have HB1 := hide (HB.out.trans (hb1.mono (Nat.le_succ _)))
        clear hb1
        go_wp2_with fail
        go_ret
        exact ⟨by rw [hb]; rfl, HB1.out⟩

end Go.Proofs.Ytodlpofpeoiedaa
