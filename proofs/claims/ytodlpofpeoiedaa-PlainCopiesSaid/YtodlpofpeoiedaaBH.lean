/-
  The colours of bytes: plain.RawOf, joined.
-/
import Derived.Test.YtodlpofpeoiedaaBG
namespace Go.Proofs.Ytodlpofpeoiedaa
open Go.RowKit Go.Sort

theorem ext_ext (s : ByteArray) (i n k : Nat) (h : n ≤ s.size) (hi : i + k ≤ n) : (s.extract i n).extract k (s.extract i n).size = s.extract (i + k) n := by
  have e : ((s.extract i n).extract k (s.extract i n).size).data.toList = (s.extract (i + k) n).data.toList := by
    rw [ByteArray.data_extract, ByteArray.data_extract, ByteArray.data_extract, Array.toList_extract, Array.toList_extract, Array.toList_extract, List.extract_eq_take_drop, List.extract_eq_take_drop, List.extract_eq_take_drop,
      ByteArray.size_extract, List.drop_take, List.drop_drop, List.take_take]
    congr 1
    omega
  have e2 := Array.ext' e
  cases h1 : (s.extract i n).extract k (s.extract i n).size
  cases h2 : s.extract (i + k) n
  rw [h1, h2] at e2
  exact congrArg ByteArray.mk e2

theorem fits_parts {f : Fmt} {a b : Int} (h : fitsB f a b = true) : validB f = true ∧ (0 ≤ a ∧ a ≤ 4096) ∧ 0 ≤ b ∧ b ≤ 4096 := by
  simp only [fitsB, sideB, Bool.and_eq_true, decide_eq_true_eq] at h
  exact ⟨h.1.1, h.1.2, h.2⟩

/-- The colours of bytes. -/
def pixL (f : Fmt) (s : ByteArray) (m : Nat) : List Int := (List.range m).map fun j => colV f (getV f (sizeN f) (s.extract (j * sizeN f) (m * sizeN f)))

theorem area {a b : Int} (ha : 0 ≤ a ∧ a ≤ 4096) (hb : 0 ≤ b ∧ b ≤ 4096) : ∃ m : Nat, a * b = m ∧ m ≤ 16777216 := by
  have h := mul_bd ha.1 ha.2 hb.1 hb.2
  exact ⟨(a * b).toNat, by omega, by omega⟩

theorem rawOf_yes (f : Fmt) (a b : Int) (m : Nat) (s : ByteArray) (w : World) (hf : f.fit) (h : fitsB f a b = true) (hm : a * b = m) (hs : m * sizeN f ≤ s.size) (hs2 : s.size ≤ 1099511627776) :
    Calls Try.prog 26 #[fmtV f, .int .i64 a, .int .i64 b, .string s] w fun e w' => ∃ v, e = .returned (.tuple #[v, .int .i64 ((m * sizeN f : Nat) : Int), .int .i64 0]) ∧ w'.ownsRow w.heap.size 3 1 v m ((pixL f s m).map (Value.int .i64)) ∧ Below w.heap.size w w' := by
  obtain ⟨hv, ha, hb⟩ := fits_parts h
  obtain ⟨m', hm', hl⟩ := area ha hb
  obtain rfl : m = m' := by omega
  have K24 := fun w => fits_any f a b w hf
  rw [h] at K24
  obtain ⟨_, hk⟩ := size_valid hv
  have hml : m * sizeN f ≤ 67108864 := Nat.le_trans (Nat.mul_le_mul hl (size_le f)) (by decide)
  refine rawOf_walk f a b m (sizeN f) m (m * sizeN f) s (fun j => s.extract (j * sizeN f) (m * sizeN f)) (fun j => getV f (sizeN f) (s.extract (j * sizeN f) (m * sizeN f))) (fun j => getE f (sizeN f) (s.extract (j * sizeN f) (m * sizeN f))) _ w
    hm (by omega) (by simp) (by omega) hs hs2 (by omega) (by simp) (fun j hj => ?_) (fun j hj => ?_) hl K24 (fun w => size_any f w hf) (fun j _ w => get41_any f _ w hf) (fun j _ w => colour_any f _ w hv)
  · show (s.extract (j * sizeN f) (m * sizeN f)).size = _
    rw [ByteArray.size_extract, Nat.sub_mul]
    omega
  · have hj2 : j * sizeN f + sizeN f ≤ m * sizeN f := by rw [← Nat.succ_mul]; exact Nat.mul_le_mul_right _ hj
    have := ext_ext s (j * sizeN f) (m * sizeN f) (sizeN f) hs hj2
    show ((s.extract (j * sizeN f) (m * sizeN f)).extract _ _) = _
    rw [this, Nat.succ_mul]

end Go.Proofs.Ytodlpofpeoiedaa
