/-
  servermsg's writer: numbers, and a text with its length.
-/
import Derived.Test.YtodlpofpeoiedaaDA
namespace Go.Proofs.Ytodlpofpeoiedaa
open Go.RowKit Go.Shelf Go.Sort

/-- Numbers' bytes, and the first error behind them. -/
def intsL (k : Nat) (xs : List Int) : List UInt8 := xs.flatMap fun x => (putS k x).data.toList
def intsE (k : Nat) (er : Int) (xs : List Int) : Int := xs.foldl (fun er x => erAnd er (putE k x == 0) 1) er

theorem putS_size (k : Nat) (x : Int) : (putS k x).size ≤ k := by
  unfold putS
  split
  · rw [beB_size]; exact Nat.le_refl _
  · exact Nat.zero_le _
theorem intsL_snoc (k : Nat) (xs : List Int) (x : Int) : intsL k (xs ++ [x]) = intsL k xs ++ (putS k x).data.toList := by simp [intsL]
theorem intsE_snoc (k : Nat) (er : Int) (xs : List Int) (x : Int) : intsE k er (xs ++ [x]) = erAnd (intsE k er xs) (putE k x == 0) 1 := by simp [intsE, List.foldl_append]
theorem intsL_le (k : Nat) (xs : List Int) : (intsL k xs).length ≤ k * xs.length := by
  induction xs with
  | nil => exact Nat.le_refl _
  | cons x xs ih =>
    have e : intsL k (x :: xs) = (putS k x).data.toList ++ intsL k xs := rfl
    have h1 := putS_size k x
    have h2 : (putS k x).data.toList.length = (putS k x).size := by rw [Array.length_toList]; rfl
    rw [e, List.length_append, h2, List.length_cons, Nat.mul_add]
    omega

set_option maxHeartbeats 2000000 in
set_option maxRecDepth 100000 in
theorem ints_walk (B b k : Nat) (l : List UInt8) (er : Int) (a : Option Addr) (n c : Nat) (xs : List Int) (w : World) (h : Hid (IsW B b l er w)) (hI : Hid (∀ W', WKeep B b w W' → IntsIn W'.heap.size W' a n xs))
    (hn : n ≤ 1099511627776) (hl : l.length ≤ 1099511627776) (hBw : B ≤ w.heap.size) (hk4 : k ≤ 4) (hk : Hid (k = 1 ∨ k = 2 ∨ k = 4)) :
    Calls Try.prog 99 #[.pointer (some ⟨b, 0, none⟩), .int .i64 k, .slice a n c] w fun e w' => e = .returned (.tuple #[]) ∧ (IsW B b (l ++ intsL k xs) (intsE k er xs) w' ∧ WKeep B b w w') := by
  have hlz : Hid (xs.length = n) := (hI.out w (WKeep.refl _ _ _)).1
  go_enter Try.func99, Try.ntmps99
  go_wp2_with fail
  go_loopw [12] (fun i wr => ∃ j : Nat, j ≤ n ∧ i = .int .i64 j ∧ Hid (IsW B b (l ++ intsL k (xs.take j)) (intsE k er (xs.take j)) wr) ∧ Hid (WKeep B b w wr)) (fun i _ => n - (intOf i).toNat)
  case atStart => exact ⟨0, by omega, rfl, hide (by simpa [intsL, intsE] using h.out), hide (WKeep.refl _ _ _)⟩
  case round =>
    obtain ⟨j, hj, rfl, hW, hK⟩ := hrel
    by_cases hlt : j < n
    · obtain ⟨b1, o1, rfl, hb1, hx⟩ := (hI.out wr hK.out).2.resolve_left (by omega)
      have hx0 := hx j hlt
      have et : xs.take (j + 1) = xs.take j ++ [xs[j]?.getD 0] := by
        rw [List.take_succ_eq_append_getElem (by rw [hlz.out]; exact hlt), List.getElem?_eq_getElem (by rw [hlz.out]; exact hlt), Option.getD_some]
      have eL : Hid (l ++ intsL k (xs.take (j + 1)) = l ++ intsL k (xs.take j) ++ (putS k (xs[j]?.getD 0)).data.toList) := hide (by rw [et, intsL_snoc, List.append_assoc])
      have eE : Hid (intsE k er (xs.take (j + 1)) = erAnd (intsE k er (xs.take j)) (putE k (xs[j]?.getD 0) == 0) 1) := hide (by rw [et, intsE_snoc])
      have hz : Hid ((l ++ intsL k (xs.take j)).length + (putS k (xs[j]?.getD 0)).size ≤ 140737488355328) := hide (by
        have h1 := intsL_le k (xs.take j)
        have h2 := putS_size k (xs[j]?.getD 0)
        have h3 : k * (xs.take j).length ≤ 4 * 1099511627776 := Nat.mul_le_mul hk4 (by rw [List.length_take]; omega)
        rw [List.length_append]
        omega)
      clear et hx hb1
      generalize xs[j]?.getD 0 = x at *
      generalize l ++ intsL k (xs.take j) = L at *
      generalize intsE k er (xs.take j) = E at *
      have hs0 := hK.out.1.size
      go_wp2_with fail
      refine (put_any k hk.out x _).mono ?_
      rintro e w1 ⟨rfl, hb⟩
      have W1 := hide (hW.out.below hb)
      have K1 := hide (hK.out.trans (WKeep.of hb (Nat.le_trans hBw hs0)))
      clear hb
      go_wp2_with fail
      refine (check98_any B b L E 1 (putE k x == 0) _ W1.out).mono ?_
      rintro e w2 ⟨rfl, h2, k2⟩
      have W2 := hide h2
      have K2 := hide (K1.out.trans k2)
      have hs2 : B ≤ w2.heap.size := Nat.le_trans hBw K2.out.1.size
      clear h2 k2
      go_wp2_with fail
      refine (wwrite_any B b L _ (putS k x) _ W2.out hz.out hs2).mono ?_
      rintro e w3 ⟨rfl, h3, k3⟩
      have W3 := hide h3
      have K3 := hide (K2.out.trans k3)
      clear h3 k3
      go_wp2_with fail
      go_roundw
      case rel => exact ⟨j + 1, by omega, by go_num, hide (by rw [eL.out, eE.out]; exact W3.out), K3⟩
      case measure => simp [intOf]; omega
    · obtain rfl : j = n := by omega
      have et : xs.take j = xs := List.take_of_length_le (by rw [hlz.out]; exact Nat.le_refl _)
      rw [et] at hW
      clear et
      go_wp2_with fail
      go_end0
      exact ⟨rfl, hW.out, hK.out⟩

/-- A row that the call has just made is kept. -/
theorem ints_new {B b : Nat} {w W : World} {xs : List Int} (hb : b < w.heap.size) (hk : WKeep B b (w.alloc (.cells (xs.map (Value.int .i64)).toArray 3)) W) : IntsIn W.heap.size W (some ⟨w.heap.size, 0, none⟩) xs.length xs := by
  have hB : Blk w.heap.size 3 (xs.map (Value.int .i64)).toArray W := hk.blk (Blk.new w 3 _) (by omega) (by decide)
  refine ⟨rfl, .inr ⟨w.heap.size, 0, rfl, (Array.getElem?_eq_some_iff.1 hB).1, fun j hj => ?_⟩⟩
  have e : W.cell? ⟨w.heap.size, 0 + j, none⟩ = (xs.map (Value.int .i64)).toArray[0 + j]? := by
    have hB' : W.heap[w.heap.size]? = some (.cells (xs.map (Value.int .i64)).toArray 3 (0, 0)) := hB
    simp [World.cell?, hB']
  rw [e, Nat.zero_add, List.getElem?_toArray, List.getElem?_map, List.getElem?_eq_getElem hj]
  rfl

/-- (*writer).ints, of numbers that the call has just put into a row. -/
theorem ints_lits (B b k : Nat) (l : List UInt8) (er : Int) (xs : List Int) (w : World) (h : IsW B b l er w) (hn : xs.length ≤ 1099511627776) (hl : l.length ≤ 1099511627776) (hBw : B ≤ w.heap.size) (hk : k = 1 ∨ k = 2 ∨ k = 4) (c : Nat) :
    Calls Try.prog 99 #[.pointer (some ⟨b, 0, none⟩), .int .i64 k, .slice (some ⟨w.heap.size, 0, none⟩) xs.length c] (w.alloc (.cells (xs.map (Value.int .i64)).toArray 3)) fun e w' => e = .returned (.tuple #[]) ∧ (IsW B b (l ++ intsL k xs) (intsE k er xs) w' ∧ WKeep B b w w') := by
  have hb : b < w.heap.size := h.lt
  have ha := (Below.refl w.heap.size w).alloc (Nat.le_refl _) (.cells (xs.map (Value.int .i64)).toArray 3)
  refine (ints_walk B b k l er _ xs.length c xs _ (h.below ha) (fun W' hk => ints_new hb hk) hn hl (Nat.le_trans hBw ha.size) (by omega) hk).mono fun e w' ⟨he, hw, hkk⟩ => ⟨he, hw, (WKeep.of ha hBw).trans hkk⟩

def txtL (s : ByteArray) : List UInt8 := (putS 4 s.size).data.toList ++ s.data.toList
def txtE (er : Int) (s : ByteArray) : Int := erAnd er (decide ((s.size : Int) ≤ 4096)) 1

set_option maxHeartbeats 2000000 in
set_option maxRecDepth 100000 in
/-- (*writer).text. -/
theorem text103_any (B b : Nat) (l : List UInt8) (er : Int) (s : ByteArray) (w : World) (h : Hid (IsW B b l er w)) (hl : l.length ≤ 109951162777) (hs : s.size ≤ 109951162777) (hBw : B ≤ w.heap.size) :
    Calls Try.prog 103 #[.pointer (some ⟨b, 0, none⟩), .string s] w fun e w' => e = .returned (.tuple #[]) ∧ (IsW B b (l ++ txtL s) (intsE 4 (txtE er s) [(s.size : Int)]) w' ∧ WKeep B b w w') := by
  go_enter Try.func103, Try.ntmps103
  go_wp2_with fail
  refine (check98_any B b l er 1 (decide ((s.size : Int) ≤ 4096)) _ h.out).mono ?_
  rintro e w1 ⟨rfl, h1, k1⟩
  have W1 := hide h1
  have K1 := hide k1
  have hs1 : B ≤ w1.heap.size := Nat.le_trans hBw k1.1.size
  clear h1 k1
  go_wp2_with fail
  refine (ints_lits B b 4 l _ [(s.size : Int)] _ W1.out (by simp) (by omega) hs1 (by simp) 1).mono ?_
  rintro e w2 ⟨rfl, h2, k2⟩
  have W2 := hide h2
  have K2 := hide (K1.out.trans k2)
  have hs2 : B ≤ w2.heap.size := Nat.le_trans hBw K2.out.1.size
  have hz : Hid ((l ++ intsL 4 [(s.size : Int)]).length + s.size ≤ 140737488355328) := hide (by
    have := intsL_le 4 [(s.size : Int)]
    rw [List.length_append]
    simp only [List.length_cons, List.length_nil] at this
    omega)
  clear h2 k2
  go_wp2_with fail
  refine (wwrite_any B b _ _ s _ W2.out hz.out hs2).mono ?_
  rintro e w3 ⟨rfl, h3, k3⟩
  have W3 := hide h3
  have K3 := hide (K2.out.trans k3)
  clear h3 k3
  go_wp2_with fail
  go_end0
  have e : l ++ txtL s = l ++ intsL 4 [(s.size : Int)] ++ s.data.toList := by simp [txtL, intsL]
  rw [e]
  exact ⟨rfl, W3.out, K3.out⟩

end Go.Proofs.Ytodlpofpeoiedaa
