/-
  The document's writer: a number, bytes of 0, a text with its length, what was written.
-/
import Derived.Test.YtodlpofpeoiedaaDD
namespace Go.Proofs.Ytodlpofpeoiedaa
open Go.RowKit Go.Sort

/-- A writer of the document's: the text, and whether all fits. -/
def IsR (b : Nat) (S : ByteArray) (ok : Bool) (w : World) : Prop := Blk b 134 #[.string S, .bool ok] w

theorem only_below {b B : Nat} {w w' : World} (h : Only b w w') (hB : B ≤ w.heap.size) (hb : B ≤ b) : Below B w w' := (Below.refl B w).grown h hB (fun k e => by cases e; exact hb)
theorem only_of {b : Nat} {w w' : World} (h : Below w.heap.size w w') : Only b w w' := ⟨h.os, h.tape, h.output, h.size, fun k hk _ => h.block k hk⟩
theorem only_trans {b : Nat} {x y z : World} (h : Only b x y) (k : Only b y z) : Only b x z := ⟨k.os.trans h.os, k.tape.trans h.tape, k.output.trans h.output, Nat.le_trans h.size k.size, fun i hi hne => (k.block i (Nat.lt_of_lt_of_le hi h.size) hne).trans (h.block i hi hne)⟩
theorem only_set (b j : Nat) (w : World) (v : Value) : Only b w (w.setCell ⟨b, j, none⟩ v) := ⟨rfl, rfl, rfl, by simp [World.setCell], fun k _ hk => Below.heap_setCell _ _ _ _ (fun e => hk (by simp [e]))⟩

set_option maxHeartbeats 1000000 in
set_option maxRecDepth 100000 in
theorem wint_walk (b : Nat) (k n : Int) (S T : ByteArray) (E : Int) (ok eb : Bool) (w : World) (h : Hid (IsR b S ok w)) (hs : (9223372036854775807 < S.size + T.size) = False) (hE : (E == 0) = eb)
    (K85 : Hid (∀ w, Calls Try.prog 85 #[.int .i64 k, .int .i64 n] w fun e w' => e = .returned (.tuple #[.string T, .int .i64 E]) ∧ Below w.heap.size w w')) :
    Calls Try.prog 101 #[.pointer (some ⟨b, 0, none⟩), .int .i64 k, .int .i64 n] w fun e w' => e = .returned (.tuple #[]) ∧ (IsR b (S ++ T) (ok && eb) w' ∧ Only b w w') := by
  go_enter Try.func101, Try.ntmps101
  go_wp2_with fail
  refine (K85.out _).mono ?_
  rintro e w1 ⟨rfl, hb⟩
  have R1 := hide (Blk.below h.out hb)
  have O1 := hide (only_of (b := b) hb)
  clear hb
  have c0 : w1.cell? ⟨b, 0, none⟩ = some (.string S) := Blk.cell R1.out 0
  have p0 : w1.frozen? ⟨b, 0, none⟩ = false := Blk.fr R1.out 0
  have c1 : w1.cell? ⟨b, 1, none⟩ = some (.bool ok) := Blk.cell R1.out 1
  have p1 : w1.frozen? ⟨b, 1, none⟩ = false := Blk.fr R1.out 1
  have R2 := hide (Blk.set (Blk.set R1.out 0 (.string (S ++ T))) 1 (.bool (ok && eb)))
  have O2 := hide (only_trans (only_trans O1.out (only_set b 0 w1 (.string (S ++ T)))) (only_set b 1 _ (.bool (ok && eb))))
  cases ok with
  | true =>
    simp only [Bool.true_and] at R2 O2
    go_wp2_with fail
    go_end0
    exact ⟨rfl, R2.out, O2.out⟩
  | false =>
    simp only [Bool.false_and] at R2 O2
    go_wp2_with fail
    go_end0
    exact ⟨rfl, R2.out, O2.out⟩

/-- (*Writer).Int. -/
theorem wint_any (b k : Nat) (hk : k = 1 ∨ k = 2 ∨ k = 4) (n : Int) (S : ByteArray) (ok : Bool) (w : World) (h : IsR b S ok w) (hs : S.size ≤ 1099511627776) :
    Calls Try.prog 101 #[.pointer (some ⟨b, 0, none⟩), .int .i64 k, .int .i64 n] w fun e w' => e = .returned (.tuple #[]) ∧ (IsR b (S ++ putS k n) (ok && (putE k n == 0)) w' ∧ Only b w w') :=
  wint_walk b k n S (putS k n) (putE k n) ok _ w h (eq_false (by have := putS_size k n; omega)) rfl (fun w => rput_any k hk n w)

def zeroB (n : Nat) : ByteArray := strOfNums (List.replicate n 0)
theorem zeroB_snoc (n : Nat) : zeroB (n + 1) = zeroB n ++ ⟨#[0]⟩ := by
  have e : (⟨#[0]⟩ : ByteArray) = strOfNums [0] := rfl
  unfold zeroB
  rw [e, nums_append, List.replicate_succ']

set_option maxHeartbeats 1000000 in
set_option maxRecDepth 100000 in
/-- (*Writer).Pad. -/
theorem wpad_any (b n : Nat) (S : ByteArray) (ok : Bool) (w : World) (h : Hid (IsR b S ok w)) (hn : n ≤ 3) (hs : S.size ≤ 1099511627776) :
    Calls Try.prog 107 #[.pointer (some ⟨b, 0, none⟩), .int .i64 n] w fun e w' => e = .returned (.tuple #[]) ∧ (IsR b (S ++ zeroB n) ok w' ∧ Only b w w') := by
  go_enter Try.func107, Try.ntmps107
  go_wp2_with fail
  go_loopw [4] (fun i wr => ∃ j : Nat, j ≤ n ∧ i = .int .i64 j ∧ Hid (IsR b (S ++ zeroB j) ok wr) ∧ Hid (Only b w wr)) (fun i _ => n - (intOf i).toNat)
  case atStart => exact ⟨0, by omega, rfl, hide (by have e : S ++ zeroB 0 = S := by unfold zeroB; exact ByteArray.append_empty
                                                    rw [e]; exact h.out), hide (only_of (Below.refl _ _))⟩
  case round =>
    obtain ⟨j, hj, rfl, hR, hO⟩ := hrel
    by_cases hlt : j < n
    · have c0 : wr.cell? ⟨b, 0, none⟩ = some (.string (S ++ zeroB j)) := Blk.cell hR.out 0
      have p0 : wr.frozen? ⟨b, 0, none⟩ = false := Blk.fr hR.out 0
      have hz : (zeroB j).size = j := by unfold zeroB; rw [strOfNums_size, List.length_replicate]
      have hc : (9223372036854775807 < S.size + j + 1) = False := eq_false (by omega)
      have et := hide (zeroB_snoc j)
      have R2 := hide (Blk.set hR.out 0 (.string (S ++ zeroB j ++ ⟨#[0]⟩)))
      have O2 := hide (only_trans hO.out (only_set b 0 wr (.string (S ++ zeroB j ++ ⟨#[0]⟩))))
      go_wp2_with fail
      go_roundw
      case rel => exact ⟨j + 1, by omega, by go_num, hide (by rw [et.out, ← ByteArray.append_assoc]; exact R2.out), O2⟩
      case measure => simp [intOf]; omega
    · obtain rfl : j = n := by omega
      go_wp2_with fail
      go_end0
      exact ⟨rfl, hR.out, hO.out⟩

set_option maxHeartbeats 1000000 in
set_option maxRecDepth 100000 in
/-- miradorref23.long. -/
theorem long104_any (b : Nat) (s S : ByteArray) (ok : Bool) (w : World) (h : Hid (IsR b S ok w)) (hs : S.size ≤ 109951162777) (hs2 : s.size ≤ 109951162777) :
    Calls Try.prog 104 #[.pointer (some ⟨b, 0, none⟩), .string s] w fun e w' => e = .returned (.tuple #[]) ∧ (IsR b (S ++ putS 4 s.size ++ s) (ok && (putE 4 s.size == 0) && decide ((s.size : Int) ≤ 4096)) w' ∧ Only b w w') := by
  go_enter Try.func104, Try.ntmps104
  go_wp2_with fail
  refine (wint_any b 4 (by simp) s.size S ok _ h.out (by omega)).mono ?_
  rintro e w1 ⟨rfl, hr, ho⟩
  have hz : (S ++ putS 4 s.size).size ≤ 109951162781 := by rw [ByteArray.size_append]; have := putS_size 4 (s.size : Int); omega
  generalize hT : S ++ putS 4 s.size = T at *
  generalize hq : (ok && (putE 4 s.size == 0)) = q at *
  have HT := hide hT
  have HQ := hide hq
  clear hT hq
  have R1 := hide hr
  have O1 := hide ho
  clear hr ho
  have c0 : w1.cell? ⟨b, 0, none⟩ = some (.string T) := Blk.cell R1.out 0
  have p0 : w1.frozen? ⟨b, 0, none⟩ = false := Blk.fr R1.out 0
  have c1 : w1.cell? ⟨b, 1, none⟩ = some (.bool q) := Blk.cell R1.out 1
  have p1 : w1.frozen? ⟨b, 1, none⟩ = false := Blk.fr R1.out 1
  have hc : (9223372036854775807 < T.size + s.size) = False := eq_false (by omega)
  have R2 := hide (Blk.set (Blk.set R1.out 0 (.string (T ++ s))) 1 (.bool (q && decide ((s.size : Int) ≤ 4096))))
  have O2 := hide (only_trans (only_trans O1.out (only_set b 0 w1 (.string (T ++ s)))) (only_set b 1 _ (.bool (q && decide ((s.size : Int) ≤ 4096)))))
  cases q with
  | true =>
    simp only [Bool.true_and] at R2 O2
    go_wp2_with fail
    go_end0
    rw [HT.out, HQ.out]
    exact ⟨rfl, R2.out, O2.out⟩
  | false =>
    simp only [Bool.false_and] at R2 O2
    go_wp2_with fail
    go_end0
    rw [HT.out, HQ.out]
    exact ⟨rfl, R2.out, O2.out⟩

/-- What was written, if all fits. -/
def rS (ok : Bool) (S : ByteArray) : ByteArray := if ok then S else ⟨#[]⟩
def rE (ok : Bool) : Int := if ok then 0 else 1

set_option maxHeartbeats 1000000 in
set_option maxRecDepth 100000 in
/-- miradorref23.done. -/
theorem done102_any (b : Nat) (S : ByteArray) (ok : Bool) (w : World) (h : IsR b S ok w) :
    Calls Try.prog 102 #[.pointer (some ⟨b, 0, none⟩)] w fun e w' => e = .returned (.tuple #[.string (rS ok S), .int .i64 (rE ok)]) ∧ w = w' := by
  have c0 : w.cell? ⟨b, 0, none⟩ = some (.string S) := Blk.cell h 0
  have c1 : w.cell? ⟨b, 1, none⟩ = some (.bool ok) := Blk.cell h 1
  clear h
  cases ok with
  | true =>
    go_enter Try.func102, Try.ntmps102
    go_wp2_with fail
    go_ret2
    exact ⟨rfl, rfl⟩
  | false =>
    go_enter Try.func102, Try.ntmps102
    go_wp2_with fail
    go_ret2
    exact ⟨rfl, rfl⟩

set_option maxHeartbeats 1000000 in
set_option maxRecDepth 100000 in
theorem rsigned_walk (n q : Int) (T : ByteArray) (E : Int) (w : World) (h1 : -2147483648 ≤ n) (h2 : n ≤ 2147483647) (hq : Hid ((if n < 0 then n + 4294967296 else n) = q))
    (K85 : Hid (∀ w, Calls Try.prog 85 #[.int .i64 4, .int .i64 q] w fun e w' => e = .returned (.tuple #[.string T, .int .i64 E]) ∧ Below w.heap.size w w')) :
    Calls Try.prog 106 #[.int .i64 n] w fun e w' => e = .returned (.string T) ∧ Below w.heap.size w w' := by
  by_cases hn : n < 0
  · have hq' := hq.out
    rw [if_pos hn] at hq'
    clear hq
    subst hq'
    go_enter Try.func106, Try.ntmps106
    go_wp2_with fail
    refine (K85.out _).mono ?_
    rintro e w1 ⟨rfl, hb⟩
    have B1 := hide hb
    clear hb
    go_wp2_with fail
    go_ret
    exact ⟨rfl, B1.out⟩
  · have hq' := hq.out
    rw [if_neg hn] at hq'
    clear hq
    subst hq'
    go_enter Try.func106, Try.ntmps106
    go_wp2_with fail
    refine (K85.out _).mono ?_
    rintro e w1 ⟨rfl, hb⟩
    have B1 := hide hb
    clear hb
    go_wp2_with fail
    go_ret
    exact ⟨rfl, B1.out⟩

set_option maxHeartbeats 1000000 in
set_option maxRecDepth 100000 in
theorem rsigned_no (n : Int) (w : World) (h : n < -2147483648 ∨ 2147483647 < n) : Calls Try.prog 106 #[.int .i64 n] w fun e w' => e = .returned (.string ⟨#[]⟩) ∧ Below w.heap.size w w' := by
  rcases h with h | h
  · go_enter Try.func106, Try.ntmps106
    go_wp2_with fail
    go_ret
    exact ⟨rfl, Below.refl _ _⟩
  · have h' : ¬ n < -2147483648 := by omega
    go_enter Try.func106, Try.ntmps106
    go_wp2_with fail
    go_ret
    exact ⟨rfl, Below.refl _ _⟩

/-- miradorref01.Signed. -/
theorem rsigned_any (n : Int) (w : World) : Calls Try.prog 106 #[.int .i64 n] w fun e w' => e = .returned (.string (signS n)) ∧ Below w.heap.size w w' := by
  by_cases h : -2147483648 ≤ n ∧ n ≤ 2147483647
  · have e : signS n = beB 4 (n % 4294967296) := if_pos h
    rw [e]
    have hf : putFits 4 (n % 4294967296) = true := by unfold putFits; exact decide_eq_true (by omega)
    refine rsigned_walk n (n % 4294967296) _ 0 w h.1 h.2 (hide ?_) (fun w => ?_)
    · split
      · omega
      · omega
    · have := rput_any 4 (by simp) (n % 4294967296) w
      unfold putS putE at this
      rw [hf] at this
      exact this
  · have e : signS n = ⟨#[]⟩ := if_neg h
    rw [e]
    exact rsigned_no n w (by omega)

end Go.Proofs.Ytodlpofpeoiedaa
