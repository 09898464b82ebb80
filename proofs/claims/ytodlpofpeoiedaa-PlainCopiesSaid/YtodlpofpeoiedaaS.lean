/-
  Plain words on bytes and numbers: a number's bytes, the least or the greatest one first, and the number of bytes. No program in sight.
-/
import Derived.Laws.BytesArg
import Derived.Below
namespace Go.Proofs.Ytodlpofpeoiedaa
open Go.RowKit

/-- The k lowest bytes of a number, the least one first. -/
def leI : Nat → Int → List Int
  | 0, _ => []
  | k + 1, n => n % 256 :: leI k (n / 256)

theorem leI_length (k : Nat) : ∀ n, (leI k n).length = k := by
  induction k with
  | zero => intro n; rfl
  | succ k ih => intro n; simp [leI, ih]

/-- The same as a string, the least byte first. -/
def leB (k : Nat) (n : Int) : ByteArray := strOfNums (leI k n)

/-- The greatest byte first. -/
def beB (k : Nat) (n : Int) : ByteArray := strOfNums (leI k n).reverse

/-- A number is written in k bytes, if it fits: the bytes, and the error. -/
def putFits (k : Nat) (n : Int) : Bool := decide (0 ≤ n ∧ n < 256 ^ k)
def putS (k : Nat) (n : Int) : ByteArray := if putFits k n then beB k n else ⟨#[]⟩
def putE (k : Nat) (n : Int) : Int := if putFits k n then 0 else 1

theorem strOfNums_mk (xs : List Int) : strOfNums xs = ⟨(xs.map fun n => UInt8.ofNat n.toNat).toArray⟩ := rfl

theorem beB_size (k : Nat) (n : Int) : (beB k n).size = k := by
  rw [beB, strOfNums_size, List.length_reverse, leI_length]

theorem snoc_ind {α : Type} {P : List α → Prop} (h0 : P []) (h1 : ∀ l b, P l → P (l ++ [b])) (l : List α) : P l := by
  have h : ∀ m : List α, P m.reverse := fun m => by
    induction m with
    | nil => exact h0
    | cons a m ih => rw [List.reverse_cons]; exact h1 _ _ ih
  simpa using h l.reverse

/-- The number of bytes, the greatest one first. -/
def beV (l : List UInt8) : Int := l.foldl (fun a b => a * 256 + (b.toNat : Int)) 0

theorem beV_append (l m : List UInt8) : beV (l ++ m) = m.foldl (fun a b => a * 256 + (b.toNat : Int)) (beV l) := by
  simp [beV, List.foldl_append]

theorem beV_snoc (l : List UInt8) (b : UInt8) : beV (l ++ [b]) = beV l * 256 + b.toNat := by
  simp [beV, List.foldl_append]

theorem beV_bd (l : List UInt8) : 0 ≤ beV l ∧ beV l < 256 ^ l.length := by
  refine snoc_ind (P := fun l => 0 ≤ beV l ∧ beV l < 256 ^ l.length) (by simp [beV]) (fun l b ih => ?_) l
  rw [beV_snoc]
  have := b.toNat_lt
  simp only [List.length_append, List.length_cons, List.length_nil, Nat.zero_add, Int.pow_succ]
  omega

/-- The number of bytes, the least one first. -/
def leV : List UInt8 → Int
  | [] => 0
  | b :: l => b.toNat + 256 * leV l

theorem leV_reverse (l : List UInt8) : leV l.reverse = beV l := by
  refine snoc_ind (P := fun l => leV l.reverse = beV l) rfl (fun l b ih => ?_) l
  rw [beV_snoc, List.reverse_append]
  simp [leV, ih]
  omega

/-- What was written in k bytes is read again. -/
theorem beV_beB (k : Nat) : ∀ n : Int, 0 ≤ n → n < 256 ^ k → beV (beB k n).data.toList = n := by
  have h : ∀ (k : Nat) (n : Int), 0 ≤ n → n < 256 ^ k → leV ((leI k n).map fun n => UInt8.ofNat n.toNat) = n := by
    intro k
    induction k with
    | zero => intro n h0 h1; simp [leI, leV] at *; omega
    | succ k ih =>
      intro n h0 h1
      have h2 : n / 256 < 256 ^ k := by
        rw [Int.pow_succ] at h1
        omega
      have := ih (n / 256) (by omega) h2
      simp only [leI, List.map_cons, leV, this]
      have e : ((UInt8.ofNat (n % 256).toNat).toNat : Int) = n % 256 := by
        simp
        omega
      rw [e]
      omega
  intro n h0 h1
  rw [← leV_reverse, beB, strOfNums_data, List.map_reverse, List.reverse_reverse, h k n h0 h1]

theorem leI_1 (n : Int) : leI 1 n = [n % 256] := rfl
theorem leI_2 (n : Int) : leI 2 n = [n % 256, n / 256 % 256] := rfl
theorem leI_4 (n : Int) : leI 4 n = [n % 256, n / 256 % 256, n / 65536 % 256, n / 16777216 % 256] := by
  simp only [leI, List.cons.injEq, true_and, and_true]
  omega

end Go.Proofs.Ytodlpofpeoiedaa
