/-
  What the package writes and what the document writes: plain equalities.
-/
import Derived.Test.YtodlpofpeoiedaaDM
namespace Go.Proofs.Ytodlpofpeoiedaa
open Go.RowKit Go.Sort

def ofL (l : List UInt8) : ByteArray := ⟨l.toArray⟩

theorem ofL_append (a b : List UInt8) : ofL (a ++ b) = ofL a ++ ofL b := by
  apply ByteArray.ext
  simp [ofL]

theorem ofL_data (s : ByteArray) : ofL s.data.toList = s := by
  apply ByteArray.ext
  simp [ofL]

theorem ofL_nil : ofL [] = ⟨#[]⟩ := rfl

theorem rE_true : rE true = 0 := rfl
theorem rE_false : rE false = 1 := rfl

theorem erAnd_rE (p q : Bool) : erAnd (rE p) q 1 = rE (p && q) := by
  cases p <;> cases q <;> rfl

theorem intsE_rE (k : Nat) (xs : List Int) : ∀ p, intsE k (rE p) xs = rE (p && xs.all fun x => putE k x == 0) := by
  induction xs with
  | nil => intro p; simp [intsE]
  | cons x xs ih =>
    intro p
    have h := ih (p && (putE k x == 0))
    simp only [intsE, List.foldl_cons] at h ⊢
    rw [erAnd_rE, h, List.all_cons, Bool.and_assoc]

theorem txtE_rE (p : Bool) (s : ByteArray) : txtE (rE p) s = rE (p && decide ((s.size : Int) ≤ 4096)) := erAnd_rE _ _

theorem doneS_rE (l : List UInt8) (p : Bool) : doneS l (rE p) = rS p (ofL l) := by
  cases p <;> rfl

theorem ofL_ints_cons (k : Nat) (x : Int) (xs : List Int) : ofL (intsL k (x :: xs)) = putS k x ++ ofL (intsL k xs) := by
  rw [intsL, List.flatMap_cons, ofL_append, ofL_data]
  rfl

theorem ofL_ints_nil (k : Nat) : ofL (intsL k []) = ⟨#[]⟩ := rfl

theorem ofL_ints_app (k : Nat) (xs ys : List Int) : ofL (intsL k (xs ++ ys)) = ofL (intsL k xs) ++ ofL (intsL k ys) := by
  rw [intsL, List.flatMap_append, ofL_append]
  rfl

theorem ofL_txt (s : ByteArray) : ofL (txtL s) = putS 4 s.size ++ s := by
  rw [txtL, ofL_append, ofL_data, ofL_data]

theorem e_app (s : ByteArray) : (⟨#[]⟩ : ByteArray) ++ s = s := by
  apply ByteArray.ext
  simp

theorem app_e (s : ByteArray) : s ++ (⟨#[]⟩ : ByteArray) = s := by
  apply ByteArray.ext
  simp

end Go.Proofs.Ytodlpofpeoiedaa
