/-
  The contract of format.get: the number of bytes, by the format's order.
-/
import Derived.Test.YtodlpofpeoiedaaAA
namespace Go.Proofs.Ytodlpofpeoiedaa
open Go.RowKit Go.Sort

/-- Bytes by the format's order, the greatest one first. -/
def ordL (big : Bool) (l : List UInt8) : List UInt8 := if big then l else l.reverse
def getE (f : Fmt) (k : Nat) (s : ByteArray) : Int := if validB f then (if s.size < k then 2 else 0) else 130
def getV (f : Fmt) (k : Nat) (s : ByteArray) : Int := if getE f k s = 0 then beV (ordL f.big (s.data.toList.take k)) else 0

theorem ordL_length (big : Bool) (l : List UInt8) : (ordL big l).length = l.length := by
  unfold ordL
  split <;> simp

theorem or_low2 (x y : Int) (h0 : 0 ≤ x) (h1 : x ≤ 4294967295) (h2 : 0 ≤ y) (h3 : y ≤ 255) : bits .or .i64 (x * 256) y = x * 256 + y := by
  have hc : bits .or .i64 (x * 256) y = bits .or .i64 y (x * 256) := by simp only [bits, BitVec.or_comm]
  rw [hc]
  obtain ⟨a, rfl⟩ := Int.eq_ofNat_of_zero_le h0
  obtain ⟨b, rfl⟩ := Int.eq_ofNat_of_zero_le h2
  have h := or_nat 8 b a (by omega) (by omega) (by omega)
  have e : ((a * 2 ^ 8 : Nat) : Int) = (a : Int) * 256 := by rw [Int.natCast_mul]; rfl
  rw [e] at h
  rw [h]
  omega

theorem beV_step (m : List UInt8) (j : Nat) (h : j < m.length) : beV (m.take (j + 1)) = beV (m.take j) * 256 + (m[j].toNat : Int) := by
  rw [List.take_succ_eq_append_getElem h, beV_snoc]

theorem beV_small (m : List UInt8) (j : Nat) (h : j ≤ 4) : 0 ≤ beV (m.take j) ∧ beV (m.take j) ≤ 4294967295 := by
  have hb := beV_bd (m.take j)
  have : (m.take j).length ≤ 4 := by rw [List.length_take]; omega
  have h4 : (m.take j).length = 0 ∨ (m.take j).length = 1 ∨ (m.take j).length = 2 ∨ (m.take j).length = 3 ∨ (m.take j).length = 4 := by omega
  rcases h4 with h | h | h | h | h <;> rw [h] at hb <;> omega

theorem idx_str (s : ByteArray) (i : Nat) (h : i < s.size) (w : World) : (Instr.index 9 (.string s) (.int .i64 (i : Int))).run Try.prog w = .ok (.int .u8 ((s[i]'h).toNat : Int)) w := by
  have h' : (i : Int) < (s.size : Int) := by omega
  simp [go_sem, h]

set_option maxHeartbeats 1600000 in
set_option maxRecDepth 100000 in
theorem get97_walk (f : Fmt) (k : Nat) (s : ByteArray) (m : List UInt8) (w : World) (hk : k ≤ 4) (hs : k ≤ s.size) (hm : m.length = k)
    (hb : ∀ j (h : j < k), Hid (∀ w, (Instr.index 9 (.string s) (.int .i64 (if f.big = true then (j : Int) else (k : Int) - 1 - j))).run Try.prog w = .ok (.int .u8 ((m[j]'(by omega)).toNat : Int)) w))
    (K17 : Hid (∀ w, Calls Try.prog 17 #[fmtV f] w fun e w' => e = .returned (.bool true) ∧ Below w.heap.size w w')) :
    Calls Try.prog 97 #[fmtV f, .int .i64 k, .string s] w fun e w' => e = .returned (.tuple #[.int .i64 (beV m), .int .i64 0]) ∧ Below w.heap.size w w' := by
  have hs' : (k : Int) ≤ s.size := by omega
  go_enter Try.func97, Try.ntmps97
  go_wp2_with fail
  refine (K17.out _).mono ?_
  rintro e w1 ⟨rfl, hb1⟩
  have hz1 : w.heap.size < w1.heap.size := Nat.lt_of_lt_of_le (by simp) hb1.size
  have hbig1 : w1.cell? ⟨w.heap.size, 2, none⟩ = some (.bool f.big) := by
    rw [hb1.cell (p := ⟨w.heap.size, 2, none⟩) (by simp), World.cell?_alloc_at _ _ _ _ rfl]
    rfl
  have HB := hide (((Below.refl _ _).alloc (Nat.le_refl _) _).trans (hb1.mono (by simp)))
  clear hb1
  go_wp2_with fail
  go_loopw [8, 21] (fun n i wr => ∃ j : Nat, j ≤ k ∧ i = .int .i64 j ∧ n = .int .i64 (beV (m.take j)) ∧ wr = w1) (fun _ i _ => k - (intOf i).toNat)
  case atStart => exact ⟨0, by omega, rfl, rfl, rfl⟩
  case round =>
    obtain ⟨j, hj, rfl, rfl, rfl⟩ := hrel
    by_cases hlt : j < k
    · have hx := (hb j hlt).out
      have hst := hide (beV_step m j (by omega))
      have hsm := beV_small m j (by omega)
      have hc1 : 0 ≤ ((m[j]'(by omega)).toNat : Int) := by omega
      have hc2 : ((m[j]'(by omega)).toNat : Int) ≤ 255 := by have := (m[j]'(by omega)).toNat_lt; omega
      have hor := or_low2 (beV (m.take j)) ((m[j]'(by omega)).toNat : Int) hsm.1 hsm.2 hc1 hc2
      rw [← hst.out] at hor
      generalize beV (m.take j) = n at *
      generalize hn1 : beV (m.take (j + 1)) = n' at *
      have HN := hide hn1
      clear hn1
      generalize ((m[j]'(by omega)).toNat : Int) = c at *
      clear hb
      cases hb : f.big with
      | true =>
        rw [hb] at hx hbig1
        simp only [if_true] at hx
        go_wp2_with fail
        go_roundw
        case rel => exact ⟨j + 1, by omega, by go_num, by rw [HN.out], trivial⟩
        case measure => simp [intOf]; omega
      | false =>
        rw [hb] at hx hbig1
        simp only [Bool.false_eq_true, if_false] at hx
        go_wp2_with fail
        go_roundw
        case rel => exact ⟨j + 1, by omega, by go_num, by rw [HN.out], trivial⟩
        case measure => simp [intOf]; omega
    · obtain rfl : j = k := by omega
      clear hb
      have : m.take j = m := by rw [← hm, List.take_length]
      rw [this]
      go_wp2_with fail
      go_ret2
      exact ⟨rfl, HB.out⟩

set_option maxHeartbeats 1600000 in
set_option maxRecDepth 100000 in
theorem get97_no (f : Fmt) (k : Nat) (s : ByteArray) (w : World) (K17 : Hid (∀ w, Calls Try.prog 17 #[fmtV f] w fun e w' => e = .returned (.bool false) ∧ Below w.heap.size w w')) :
    Calls Try.prog 97 #[fmtV f, .int .i64 k, .string s] w fun e w' => e = .returned (.tuple #[.int .i64 0, .int .i64 130]) ∧ Below w.heap.size w w' := by
  go_enter Try.func97, Try.ntmps97
  go_wp2_with fail
  refine (K17.out _).mono ?_
  rintro e w1 ⟨rfl, hb1⟩
  have HB := hide (((Below.refl _ _).alloc (Nat.le_refl _) _).trans (hb1.mono (by simp)))
  clear hb1
  go_wp2_with fail
  go_ret2
  exact ⟨rfl, HB.out⟩

set_option maxHeartbeats 1600000 in
set_option maxRecDepth 100000 in
theorem get97_short (f : Fmt) (k : Nat) (s : ByteArray) (w : World) (hs : s.size < k) (K17 : Hid (∀ w, Calls Try.prog 17 #[fmtV f] w fun e w' => e = .returned (.bool true) ∧ Below w.heap.size w w')) :
    Calls Try.prog 97 #[fmtV f, .int .i64 k, .string s] w fun e w' => e = .returned (.tuple #[.int .i64 0, .int .i64 2]) ∧ Below w.heap.size w w' := by
  have hs' : (s.size : Int) < k := by omega
  go_enter Try.func97, Try.ntmps97
  go_wp2_with fail
  refine (K17.out _).mono ?_
  rintro e w1 ⟨rfl, hb1⟩
  have HB := hide (((Below.refl _ _).alloc (Nat.le_refl _) _).trans (hb1.mono (by simp)))
  clear hb1
  go_wp2_with fail
  go_ret2
  exact ⟨rfl, HB.out⟩

/-- A format's shifts are numbers of the machine. -/
def Fmt.fit (f : Fmt) : Prop := f.rs ≤ 9223372036854775807 ∧ f.gs ≤ 9223372036854775807 ∧ f.bs ≤ 9223372036854775807

theorem valid_fit (f : Fmt) (w : World) (h : f.fit) : Calls Try.prog 17 #[fmtV f] w fun e w' => e = .returned (.bool (validB f)) ∧ Below w.heap.size w w' := valid_any f w h.1 h.2.1 h.2.2

theorem toList_at (s : ByteArray) (i : Nat) (h : i < s.size) (k : Nat) (h' : i < (s.data.toList.take k).length) : (s.data.toList.take k)[i]'h' = s[i]'h := by
  rw [List.getElem_take]
  rfl

theorem get97_any (f : Fmt) (k : Nat) (s : ByteArray) (w : World) (hk : k ≤ 4) (hf : f.fit) :
    Calls Try.prog 97 #[fmtV f, .int .i64 k, .string s] w fun e w' => e = .returned (.tuple #[.int .i64 (getV f k s), .int .i64 (getE f k s)]) ∧ Below w.heap.size w w' := by
  have K := fun w => valid_fit f w hf
  unfold getV getE
  cases hv : validB f with
  | false =>
    rw [hv] at K
    exact get97_no f k s w K
  | true =>
    rw [hv] at K
    by_cases hs : s.size < k
    · simp only [if_true, if_pos hs]
      exact get97_short f k s w hs K
    · simp only [if_true, if_neg hs]
      have hl : (s.data.toList.take k).length = k := by
        rw [List.length_take]
        have : s.data.toList.length = s.size := by simp
        omega
      refine get97_walk f k s _ w hk (by omega) ((ordL_length _ _).trans hl) (fun j hj => hide fun w => ?_) K
      cases hb : f.big with
      | true =>
        have := idx_str s j (by omega) w
        simp only [if_true, ordL]
        rw [toList_at s j (by omega) k]
        exact this
      | false =>
        have := idx_str s (k - 1 - j) (by omega) w
        simp only [Bool.false_eq_true, if_false, ordL, List.getElem_reverse, hl]
        rw [toList_at s (k - 1 - j) (by omega) k]
        have e : ((k - 1 - j : Nat) : Int) = (k : Int) - 1 - j := by omega
        rw [← e]
        exact this

end Go.Proofs.Ytodlpofpeoiedaa
