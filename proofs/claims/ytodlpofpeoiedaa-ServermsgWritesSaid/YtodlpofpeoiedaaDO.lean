/-
  One answer for the package's writers and the document's.
-/
import Derived.Test.YtodlpofpeoiedaaDN
namespace Go.Proofs.Ytodlpofpeoiedaa
open Go.RowKit Go.Sort

def kP (n : Nat) (xs : List Int) : Bool := decide (0 < n) && (putE 1 n == 0) && xs.all fun x => putE 1 x == 0
def kS (n : Nat) (xs : List Int) : ByteArray := putS 1 n ++ ofL (intsL 1 xs)

theorem erAnd_0 (q : Bool) : erAnd 0 q 1 = rE q := by cases q <;> rfl

theorem kinds49_any (a : Option Addr) (n c : Nat) (xs : List Int) (w : World) (hI : Hid (IntsIn w.heap.size w a n xs)) (hn : n ≤ 300) :
    Calls Try.prog 49 #[.slice a n c] w fun e w' => e = .returned (.tuple #[.string (rS (kP n xs) (kS n xs)), .int .i64 (rE (kP n xs))]) ∧ Below w.heap.size w w' := by
  have h := kinds49_walk a n c xs _ w hI hn rfl
  rw [erAnd_0, intsE_rE, intsE_rE, doneS_rE, ofL_append, ofL_ints_cons, ofL_ints_nil, app_e] at h
  have e : (decide (0 < n) && [(n : Int)].all (fun x => putE 1 x == 0) && xs.all fun x => putE 1 x == 0) = kP n xs := by
    simp [kP]
  rw [e] at h
  exact h

theorem staB (x y : Int) (f : Fmt) (nm : ByteArray) : ofL (staL x y f nm) = putS 2 x ++ putS 2 y ++ bytesF f ++ putS 4 nm.size ++ nm := by
  rw [staL, ofL_append, ofL_append, ofL_ints_cons, ofL_ints_cons, ofL_ints_nil, app_e, ofL_data, ofL_txt]
  simp only [ByteArray.append_assoc]

def staP (x y : Int) (f : Fmt) (nm : ByteArray) : Bool := validB f && (x != 0 && y != 0) && (putE 2 x == 0) && (putE 2 y == 0) && (putE 4 nm.size == 0) && decide ((nm.size : Int) ≤ 4096)
def staK (x y : Int) (f : Fmt) (nm : ByteArray) : Int := if validB f then rE (staP x y f nm) else 130
def staR (x y : Int) (f : Fmt) (nm : ByteArray) : ByteArray := rS (staP x y f nm) (putS 2 x ++ putS 2 y ++ bytesF f ++ putS 4 nm.size ++ nm)

theorem erAnd_130 (q : Bool) : erAnd 130 q 1 = 130 := by cases q <;> rfl
theorem intsE_130 (k : Nat) (xs : List Int) : intsE k 130 xs = 130 := by
  induction xs with
  | nil => rfl
  | cons x xs ih =>
    simp only [intsE, List.foldl_cons] at ih ⊢
    rw [erAnd_130, ih]

theorem staE_eq (x y : Int) (f : Fmt) (nm : ByteArray) : staE x y f nm (x != 0 && y != 0) = staK x y f nm := by
  unfold staE staK
  cases hv : validB f with
  | false =>
    have e : erAnd 0 false 130 = 130 := rfl
    rw [e, erAnd_130, intsE_130, txtE, erAnd_130, intsE_130]
    rfl
  | true =>
    have e : erAnd 0 true 130 = rE true := rfl
    rw [e, erAnd_rE, intsE_rE, txtE_rE, intsE_rE, staP, hv]
    simp only [List.all_cons, List.all_nil, Bool.and_true, Bool.true_and, if_true]
    congr 1
    cases (x != 0 && y != 0) <;> cases (putE 2 x == 0) <;> cases (putE 2 y == 0) <;> cases (putE 4 nm.size == 0) <;> simp

theorem doneS_130 (l : List UInt8) : doneS l 130 = ⟨#[]⟩ := by
  unfold doneS
  exact if_neg (by decide)

theorem rS_false (s : ByteArray) : rS false s = ⟨#[]⟩ := rfl

theorem staP_no (x y : Int) (f : Fmt) (nm : ByteArray) (h : validB f = false) : staP x y f nm = false := by
  unfold staP
  rw [h]
  simp only [Bool.false_and]

theorem doneS_sta (x y : Int) (f : Fmt) (nm : ByteArray) : doneS (staL x y f nm) (staK x y f nm) = staR x y f nm := by
  unfold staR
  cases hv : validB f with
  | false =>
    have e : staK x y f nm = 130 := by
      unfold staK
      rw [hv]
      exact if_neg (by decide)
    rw [staP_no x y f nm hv, e, doneS_130, rS_false]
  | true =>
    have e : staK x y f nm = rE (staP x y f nm) := by
      unfold staK
      rw [hv]
      exact if_pos rfl
    rw [e, doneS_rE, staB]

theorem sta51_any (x y : Int) (f : Fmt) (nm : ByteArray) (w : World) (hf : f.fit) (hnm : nm.size ≤ 109951162777) :
    Calls Try.prog 51 #[.agg (staC x y f nm)] w fun e w' => e = .returned (.tuple #[.string (staR x y f nm), .int .i64 (staK x y f nm)]) ∧ Below w.heap.size w w' := by
  have h := bytes51_any x y f nm w hf hnm
  rw [staE_eq, doneS_sta] at h
  exact h

end Go.Proofs.Ytodlpofpeoiedaa
