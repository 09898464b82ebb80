/-
  One answer for the package's writers and the document's: the document's side.
-/
import Derived.Test.YtodlpofpeoiedaaDO
namespace Go.Proofs.Ytodlpofpeoiedaa
open Go.RowKit Go.Sort

theorem ints_size (k : Nat) (xs : List Int) : (ofL (intsL k xs)).size ≤ k * xs.length := by
  induction xs with
  | nil => exact Nat.zero_le _
  | cons x xs ih =>
    rw [ofL_ints_cons, ByteArray.size_append, List.length_cons, Nat.mul_succ]
    have := putS_size k x
    omega

theorem rkinds50_any (a : Option Addr) (n c : Nat) (xs : List Int) (w : World) (hI : Hid (IntsIn w.heap.size w a n xs)) (hn : n ≤ 300) :
    Calls Try.prog 50 #[.slice a n c] w fun e w' => e = .returned (.tuple #[.string (rS (kP n xs) (kS n xs)), .int .i64 (rE (kP n xs))]) ∧ Below w.heap.size w w' := by
  have hl : xs.length = n := hI.out.1
  have tk : ∀ j, j < n → xs.take (j + 1) = xs.take j ++ [xs[j]?.getD 0] := by
    intro j hj
    have hj' : j < xs.length := by omega
    rw [List.take_add_one, List.getElem?_eq_getElem hj']
    rfl
  have h := rkinds50_walk a n c xs (decide (0 < n)) (fun j => putS 1 n ++ ofL (intsL 1 (xs.take j))) (fun j => decide (0 < n) && (putE 1 n == 0) && (xs.take j).all fun x => putE 1 x == 0) w hI hn
    (decide_eq_decide.mpr (by omega))
    (hide (by
      rw [e_app, List.take_zero, ofL_ints_nil, app_e]))
    (hide (by
      intro j hj
      rw [tk j hj, ofL_ints_app, ofL_ints_cons, ofL_ints_nil, app_e, ByteArray.append_assoc]))
    (hide (by
      intro j hj
      rw [ByteArray.size_append]
      have h1 := putS_size 1 n
      have h2 := ints_size 1 (xs.take j)
      have h3 : (xs.take j).length ≤ j := List.length_take_le j xs
      omega))
    (hide (by
      rw [List.take_zero, List.all_nil, Bool.and_true]))
    (hide (by
      intro j hj
      rw [tk j hj, List.all_append, List.all_cons, List.all_nil, Bool.and_true]
      simp only [Bool.and_assoc]))
  have e : xs.take n = xs := by
    rw [← hl]
    exact List.take_length
  rw [e] at h
  exact h

theorem sta52_any (x y : Int) (f : Fmt) (nm : ByteArray) (w : World) (hnm : nm.size ≤ 109951162777) :
    Calls Try.prog 52 #[.agg (staC x y f nm)] w fun e w' => e = .returned (.tuple #[.string (staR x y f nm), .int .i64 (staK x y f nm)]) ∧ Below w.heap.size w w' := by
  have K18 : ∀ w, Calls Try.prog 18 #[fmtV f] w fun e w' => e = .returned (.bool (validB f)) ∧ Below w.heap.size w w' := rvalid_any f
  have K20 : ∀ w, Calls Try.prog 20 #[fmtV f] w fun e w' => e = .returned (.string (bytesF f)) ∧ Below w.heap.size w w' := rfbytes_any f
  have zT : (putS 2 x ++ putS 2 y).size ≤ 100 := by
    rw [ByteArray.size_append]
    have h1 := putS_size 2 x
    have h2 := putS_size 2 y
    omega
  have zU : (bytesF f).size ≤ 100 := Nat.le_trans (bytesF_size f) (by omega)
  have eT : (⟨#[]⟩ : ByteArray) ++ putS 2 x ++ putS 2 y = putS 2 x ++ putS 2 y := by rw [e_app]
  cases hv : validB f with
  | false =>
    have e : staK x y f nm = 130 := by
      unfold staK
      rw [hv]
      exact if_neg (by decide)
    unfold staR
    rw [staP_no x y f nm hv, e, rS_false]
    rw [hv] at K18
    exact rbytes52_no x y f nm w (hide K18)
  | true =>
    have e : staK x y f nm = rE (staP x y f nm) := by
      unfold staK
      rw [hv]
      exact if_pos rfl
    rw [hv] at K18
    unfold staR
    rw [e]
    cases hx : (x != 0) with
    | false =>
      have h := rbytes52_x x y f nm _ (bytesF f) _ w hnm (hide eT) (hide rfl) zT zU hx (hide K18) (hide K20)
      have ep : staP x y f nm = ((((false && (putE 2 x == 0)) && (putE 2 y == 0)) && (putE 4 nm.size == 0)) && decide ((nm.size : Int) ≤ 4096)) := by
        unfold staP
        rw [hv, hx]
        simp only [Bool.false_and, Bool.true_and]
      rw [ep]
      exact h
    | true =>
      cases hy : (y != 0) with
      | false =>
        have h := rbytes52_y x y f nm _ (bytesF f) _ w hnm (hide eT) (hide rfl) zT zU hx hy (hide K18) (hide K20)
        have ep : staP x y f nm = ((((false && (putE 2 x == 0)) && (putE 2 y == 0)) && (putE 4 nm.size == 0)) && decide ((nm.size : Int) ≤ 4096)) := by
          unfold staP
          rw [hv, hx, hy]
          simp only [Bool.false_and, Bool.true_and]
        rw [ep]
        exact h
      | true =>
        have h := rbytes52_ok x y f nm _ (bytesF f) _ w hnm (hide eT) (hide rfl) zT zU hx hy (hide K18) (hide K20)
        have ep : staP x y f nm = ((((true && (putE 2 x == 0)) && (putE 2 y == 0)) && (putE 4 nm.size == 0)) && decide ((nm.size : Int) ≤ 4096)) := by
          unfold staP
          rw [hv, hx, hy]
          simp only [Bool.true_and]
        rw [ep]
        exact h

end Go.Proofs.Ytodlpofpeoiedaa
