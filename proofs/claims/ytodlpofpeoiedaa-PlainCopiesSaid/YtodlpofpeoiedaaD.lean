/-
  A cursor over a text, as both packages have it (octets.Cursor, miradorref01.Cursor): what it holds, what its next bytes are, and the contracts of octets' methods.
-/
import Derived.Test.YtodlpofpeoiedaaC
import Derived.Deep.QuietTactic
import Derived.BigQuiet
import Derived.Deep.Draws
namespace Go.Proofs.Ytodlpofpeoiedaa
open Go.RowKit

theorem and_i64_nat (a b : Nat) (ha : a < 9223372036854775808) (hb : b < 9223372036854775808) :
    bits .and .i64 (a : Int) (b : Int) = ((a &&& b : Nat) : Int) := by
  have hx : a &&& b < 2 ^ 63 := Nat.and_lt_two_pow _ (by omega)
  have h1 : (BitVec.ofInt 64 (a : Int)).toNat = a := by
    rw [BitVec.ofInt_natCast, BitVec.toNat_ofNat]; exact Nat.mod_eq_of_lt (by omega)
  have h2 : (BitVec.ofInt 64 (b : Int)).toNat = b := by
    rw [BitVec.ofInt_natCast, BitVec.toNat_ofNat]; exact Nat.mod_eq_of_lt (by omega)
  show IntKind.i64.wrap ((BitVec.ofInt 64 (a : Int) &&& BitVec.ofInt 64 (b : Int)).toNat : Int) = _
  rw [BitVec.toNat_and, h1, h2, IntKind.wrap_i64]
  omega

theorem or_i64_nat (a b : Nat) (ha : a < 9223372036854775808) (hb : b < 9223372036854775808) :
    bits .or .i64 (a : Int) (b : Int) = ((a ||| b : Nat) : Int) := by
  have hx : a ||| b < 2 ^ 63 := Nat.or_lt_two_pow (by omega) (by omega)
  have h1 : (BitVec.ofInt 64 (a : Int)).toNat = a := by
    rw [BitVec.ofInt_natCast, BitVec.toNat_ofNat]; exact Nat.mod_eq_of_lt (by omega)
  have h2 : (BitVec.ofInt 64 (b : Int)).toNat = b := by
    rw [BitVec.ofInt_natCast, BitVec.toNat_ofNat]; exact Nat.mod_eq_of_lt (by omega)
  show IntKind.i64.wrap ((BitVec.ofInt 64 (a : Int) ||| BitVec.ofInt 64 (b : Int)).toNat : Int) = _
  rw [BitVec.toNat_or, h1, h2, IntKind.wrap_i64]
  omega

/-- Bits that stand above a number's are added to it. -/
theorem or_nat (m x y : Nat) (hx : x < 2 ^ m) (hx' : x < 9223372036854775808) (h : y * 2 ^ m < 9223372036854775808) : bits .or .i64 (x : Int) ((y * 2 ^ m : Nat) : Int) = ((x + y * 2 ^ m : Nat) : Int) := by
  rw [or_i64_nat x (y * 2 ^ m) hx' h, Nat.or_comm, Nat.mul_comm, ← Nat.two_pow_add_eq_or_of_lt hx, Nat.add_comm]

theorem or0 (y : Int) (h2 : 0 ≤ y) (h3 : y < 256) : bits .or .i64 0 y = y := by
  obtain ⟨b, rfl⟩ := Int.eq_ofNat_of_zero_le h2
  have h := or_nat 0 0 b (by omega) (by omega) (by omega)
  simpa using h

theorem or8 (x y : Int) (h0 : 0 ≤ x) (h1 : x < 256) (h2 : 0 ≤ y) (h3 : y < 256) : bits .or .i64 x (y * 256) = x + y * 256 := by
  obtain ⟨a, rfl⟩ := Int.eq_ofNat_of_zero_le h0
  obtain ⟨b, rfl⟩ := Int.eq_ofNat_of_zero_le h2
  have h := or_nat 8 a b (by omega) (by omega) (by omega)
  simpa using h

theorem or16 (x y : Int) (h0 : 0 ≤ x) (h1 : x < 65536) (h2 : 0 ≤ y) (h3 : y < 256) : bits .or .i64 x (y * 65536) = x + y * 65536 := by
  obtain ⟨a, rfl⟩ := Int.eq_ofNat_of_zero_le h0
  obtain ⟨b, rfl⟩ := Int.eq_ofNat_of_zero_le h2
  have h := or_nat 16 a b (by omega) (by omega) (by omega)
  simpa using h

theorem or24 (x y : Int) (h0 : 0 ≤ x) (h1 : x < 16777216) (h2 : 0 ≤ y) (h3 : y < 256) : bits .or .i64 x (y * 16777216) = x + y * 16777216 := by
  obtain ⟨a, rfl⟩ := Int.eq_ofNat_of_zero_le h0
  obtain ⟨b, rfl⟩ := Int.eq_ofNat_of_zero_le h2
  have h := or_nat 24 a b (by omega) (by omega) (by omega)
  simpa using h

/-- Where a cursor stands. -/
structure Cu where
  s : ByteArray
  i : Nat
  e : Int

/-- The first error of two. -/
def err2 (a b : Int) : Int := if a = 0 then b else a
theorem err2_0 {a : Int} (b : Int) (h : a = 0) : err2 a b = b := if_pos h
theorem err2_1 {a : Int} (b : Int) (h : ¬ a = 0) : err2 a b = a := if_neg h

/-- Its next n bytes, and where it stands behind them. -/
def Cu.fits (c : Cu) (n : Nat) : Bool := c.e == 0 && decide (n ≤ c.s.size - c.i)
def Cu.out (c : Cu) (n : Nat) : ByteArray := if c.fits n then c.s.extract c.i (c.i + n) else ⟨#[]⟩
def Cu.bytes (c : Cu) (n : Nat) : Cu := if c.fits n then ⟨c.s, c.i + n, 0⟩ else ⟨c.s, c.i, err2 c.e 2⟩
def Cu.int (c : Cu) (n : Nat) : Int := beV (c.out n).data.toList

/-- It stands in its text, which is not too long. -/
def Cu.ok (c : Cu) : Prop := c.i ≤ c.s.size ∧ c.s.size ≤ 1099511627776

/-- What it is in memory: a block of three cells of type T. -/
def IsCur (T b : Nat) (c : Cu) (w : World) : Prop := w.heap[b]? = some (.cells #[.string c.s, .int .i64 c.i, .int .i64 c.e] T (0, 0))

/-- Nothing but block b has turned, of what was there. -/
abbrev Only (b : Nat) (w w' : World) : Prop := w.grownBy w' (some b)

theorem Only.refl (b : Nat) (w : World) : Only b w w := ⟨rfl, rfl, rfl, Nat.le_refl _, fun _ _ _ => rfl⟩
theorem Only.trans {b : Nat} {w1 w2 w3 : World} (h : Only b w1 w2) (k : Only b w2 w3) : Only b w1 w3 :=
  ⟨k.os.trans h.os, k.tape.trans h.tape, k.output.trans h.output, Nat.le_trans h.size k.size, fun i hi hne => (k.block i (Nat.lt_of_lt_of_le hi h.size) hne).trans (h.block i hi hne)⟩
theorem Only.of_below {b : Nat} {w w' : World} (h : Below w.heap.size w w') : Only b w w' := ⟨h.os, h.tape, h.output, h.size, fun i hi _ => h.block i hi⟩
theorem Only.drewN {b : Nat} {w w' : World} (h : Only b w w') (n : Nat) : Only b w (w'.drewN n) := ⟨h.os, h.tape, h.output, h.size, h.block⟩
theorem Only.set {b : Nat} {w w' : World} (h : Only b w w') (j : Nat) (v : Value) : Only b w (w'.setCell ⟨b, j, none⟩ v) :=
  ⟨h.os, h.tape, h.output, by simpa [World.setCell] using h.size, fun i hi hne => (Below.heap_setCell w' ⟨b, j, none⟩ v i (by rintro rfl; exact hne rfl)).trans (h.block i hi hne)⟩
theorem Only.alloc {b : Nat} {w w' : World} (h : Only b w w') (o : Obj) : Only b w (w'.alloc o) := h.trans (Only.of_below ((Below.refl _ _).alloc (Nat.le_refl _) _))

theorem IsCur.c0 {T b : Nat} {c : Cu} {w : World} (h : IsCur T b c w) : w.cell? ⟨b, 0, none⟩ = some (.string c.s) := by unfold IsCur at h; simp [World.cell?, h]
theorem IsCur.c1 {T b : Nat} {c : Cu} {w : World} (h : IsCur T b c w) : w.cell? ⟨b, 1, none⟩ = some (.int .i64 c.i) := by unfold IsCur at h; simp [World.cell?, h]
theorem IsCur.c2 {T b : Nat} {c : Cu} {w : World} (h : IsCur T b c w) : w.cell? ⟨b, 2, none⟩ = some (.int .i64 c.e) := by unfold IsCur at h; simp [World.cell?, h]
theorem IsCur.fr {T b : Nat} {c : Cu} {w : World} (h : IsCur T b c w) (j : Nat) : w.frozen? ⟨b, j, none⟩ = false := by unfold IsCur at h; simp [World.frozen?, h]
theorem IsCur.lt {T b : Nat} {c : Cu} {w : World} (h : IsCur T b c w) : b < w.heap.size := by
  rcases Nat.lt_or_ge b w.heap.size with h' | h'
  · exact h'
  · unfold IsCur at h; simp [Array.getElem?_eq_none h'] at h

theorem set_block {b t : Nat} {c : Array Value} {w : World} (h : w.heap[b]? = some (.cells c t (0, 0))) (j : Nat) (v : Value) : (w.setCell ⟨b, j, none⟩ v).heap[b]? = some (.cells (c.setIfInBounds j v) t (0, 0)) := by
  simp [World.setCell, Array.getElem?_modify, h]

theorem IsCur.set1 {T b : Nat} {c : Cu} {w : World} (h : IsCur T b c w) (i : Nat) : IsCur T b ⟨c.s, i, c.e⟩ (w.setCell ⟨b, 1, none⟩ (.int .i64 i)) := set_block h 1 _
theorem IsCur.set2 {T b : Nat} {c : Cu} {w : World} (h : IsCur T b c w) (e : Int) : IsCur T b ⟨c.s, c.i, e⟩ (w.setCell ⟨b, 2, none⟩ (.int .i64 e)) := set_block h 2 _
theorem IsCur.drewN {T b : Nat} {c : Cu} {w : World} (h : IsCur T b c w) (n : Nat) : IsCur T b c (w.drewN n) := h
theorem IsCur.keep {T b : Nat} {c : Cu} {w w' : World} (h : IsCur T b c w) (hb : Below w.heap.size w w') : IsCur T b c w' := (hb.block b h.lt).trans h

theorem Cu.out_size (c : Cu) (hc : c.ok) (n : Nat) : (c.out n).size = if c.fits n then n else 0 := by
  unfold Cu.out
  by_cases h : c.fits n = true
  · have h2 : n ≤ c.s.size - c.i := by simp [Cu.fits] at h; exact h.2
    have := hc.1
    rw [if_pos h, if_pos h, ByteArray.size_extract]
    omega
  · rw [if_neg h, if_neg h]; rfl

theorem Cu.bytes_ok (c : Cu) (hc : c.ok) (n : Nat) : (c.bytes n).ok := by
  unfold Cu.bytes
  by_cases h : c.fits n = true
  · have h2 : n ≤ c.s.size - c.i := by simp [Cu.fits] at h; exact h.2
    rw [if_pos h]
    exact ⟨by have := hc.1; show c.i + n ≤ c.s.size; omega, hc.2⟩
  · rw [if_neg h]
    exact ⟨hc.1, hc.2⟩

/-! ### octets.Cursor -/

set_option maxHeartbeats 400000 in
theorem fail_any (b : Nat) (c : Cu) (e : Int) (w : World) (h : IsCur 163 b c w) :
    Calls Try.prog 127 #[.pointer (some ⟨b, 0, none⟩), .int .i64 e] w fun en w' => en = .returned (.tuple #[]) ∧ IsCur 163 b ⟨c.s, c.i, err2 c.e e⟩ w' ∧ Only b w w' := by
  have h2 := h.c2
  have hf := h.fr 2
  by_cases he : c.e = 0
  · have heb : (c.e == 0) = true := by simp [he]
    rw [err2_0 e he]
    have HC := hide h
    clear he h
    go_enter Try.func127, Try.ntmps127
    go_wp2
    go_end0
    exact ⟨rfl, HC.out.set2 e, (Only.refl _ _).set _ _⟩
  · have heb : (c.e == 0) = false := by simp [he]
    rw [err2_1 e he]
    have HC := hide h
    clear he h
    go_enter Try.func127, Try.ntmps127
    go_wp2
    go_end0
    exact ⟨rfl, HC.out, Only.refl _ _⟩

set_option maxHeartbeats 400000 in
theorem left_any (b : Nat) (c : Cu) (w : World) (h : IsCur 163 b c w) (hok : c.ok) :
    Calls Try.prog 128 #[.pointer (some ⟨b, 0, none⟩)] w fun en w' => en = .returned (.int .i64 ((c.s.size : Int) - c.i)) ∧ ∃ n, w.drewN n = w' := by
  have h0 := h.c0
  have h1 := h.c1
  obtain ⟨a1, a2⟩ := hok
  clear h
  go_enter Try.func128, Try.ntmps128
  go_wp2_with fail
  go_quiet (fail)
  go_wp2
  go_ret
  exact ⟨rfl, _, rfl⟩

theorem Cu.bytes_yes {c : Cu} {n : Nat} (h : c.fits n = true) : c.bytes n = ⟨c.s, c.i + n, 0⟩ := by unfold Cu.bytes; rw [if_pos h]
theorem Cu.bytes_no {c : Cu} {n : Nat} (h : ¬ c.fits n = true) : c.bytes n = ⟨c.s, c.i, err2 c.e 2⟩ := by unfold Cu.bytes; rw [if_neg h]
theorem Cu.out_yes {c : Cu} {n : Nat} (h : c.fits n = true) : c.out n = c.s.extract c.i (c.i + n) := by unfold Cu.out; rw [if_pos h]
theorem Cu.out_no {c : Cu} {n : Nat} (h : ¬ c.fits n = true) : c.out n = ⟨#[]⟩ := by unfold Cu.out; rw [if_neg h]

set_option maxHeartbeats 400000 in
set_option maxRecDepth 100000 in
/-- octets.Cursor.Bytes. -/
theorem bytes_any (b : Nat) (c : Cu) (n : Nat) (w : World) (h : IsCur 163 b c w) (hok : c.ok) (hn : n ≤ 1099511627776) :
    Calls Try.prog 74 #[.pointer (some ⟨b, 0, none⟩), .int .i64 n] w fun en w' => en = .returned (.string (c.out n)) ∧ IsCur 163 b (c.bytes n) w' ∧ Only b w w' := by
  obtain ⟨a1, a2⟩ := id hok
  have hn0 : ¬ (n : Int) < 0 := by omega
  have hL := left_any b c w h hok
  by_cases hf : c.fits n = true
  · rw [Cu.out_yes hf, Cu.bytes_yes hf]
    simp only [Cu.fits, Bool.and_eq_true, beq_iff_eq, decide_eq_true_eq] at hf
    obtain ⟨he, hl⟩ := hf
    have hgt : ¬ ((c.s.size : Int) - c.i < n) := by omega
    have h0 := h.c0
    have h1 := h.c1
    have h2 := h.c2
    have hfr := h.fr 1
    rw [he] at h2
    have HC := hide h
    have HE := hide he
    have HL := hide hL
    clear h he hL hok
    go_enter Try.func74, Try.ntmps74
    go_wp2_with (go_at_call 128; refine HL.out.mono ?_; rintro e w1 ⟨rfl, m, rfl⟩)
    go_quiet (fail)
    go_wp2
    go_ret
    refine ⟨rfl, ?_, (((Only.refl _ _).drewN m).set _ _).drewN nq⟩
    have := ((HC.out.drewN m).set1 (c.i + n)).drewN nq
    rw [HE.out] at this
    exact this
  · rw [Cu.out_no hf, Cu.bytes_no hf]
    have hlt : c.e = 0 → (c.s.size : Int) - c.i < n := by
      intro he
      have : ¬ n ≤ c.s.size - c.i := fun hx => hf (by simp [Cu.fits, he, hx])
      omega
    have HL := hide hL
    clear hf hL hok
    by_cases he : c.e = 0
    · have hgt := hlt he
      rw [err2_0 2 he]
      have hF := fun w (h : IsCur 163 b c w) => fail_any b c 2 w h
      rw [err2_0 2 he] at hF
      have HF := hide hF
      have HC := hide h
      clear he h hlt hF
      go_enter Try.func74, Try.ntmps74
      go_wp2_with (first | (go_at_call 128; refine HL.out.mono ?_; rintro e w1 ⟨rfl, m, rfl⟩) | (go_at_call 127; refine (HF.out _ (HC.out.drewN m)).mono ?_; rintro e w2 ⟨rfl, hc2, ho⟩; have hx2 := hc2.c2))
      go_ret
      exact ⟨rfl, by assumption, ((Only.refl _ _).drewN m).trans (by assumption)⟩
    · rw [err2_1 2 he]
      have hF := fun w (h : IsCur 163 b c w) => fail_any b c 2 w h
      rw [err2_1 2 he] at hF
      have HF := hide hF
      have HC := hide h
      have hxb : (c.e != 0) = true := by simp [he]
      by_cases hgt : (c.s.size : Int) - c.i < n
      · clear he h hlt hF
        go_enter Try.func74, Try.ntmps74
        go_wp2_with (first | (go_at_call 128; refine HL.out.mono ?_; rintro e w1 ⟨rfl, m, rfl⟩) | (go_at_call 127; refine (HF.out _ (HC.out.drewN m)).mono ?_; rintro e w2 ⟨rfl, hc2, ho⟩; have hx2 := hc2.c2))
        go_ret
        exact ⟨rfl, by assumption, ((Only.refl _ _).drewN m).trans (by assumption)⟩
      · have h2 := h.c2
        clear he h hlt hF
        go_enter Try.func74, Try.ntmps74
        go_wp2_with (first | (go_at_call 128; refine HL.out.mono ?_; rintro e w1 ⟨rfl, m, rfl⟩))
        go_ret
        exact ⟨rfl, HC.out.drewN _, (Only.refl _ _).drewN _⟩

end Go.Proofs.Ytodlpofpeoiedaa
