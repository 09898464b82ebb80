/-
  format.Valid and miradorref13.Valid: both answer 'validB'.
-/
import Derived.Test.YtodlpofpeoiedaaMB
import Derived.Test.YtodlpofpeoiedaaMC
import Derived.StillTailTactics
import Derived.Deep.RegionWith
import Derived.Laws.ResultCell
import Derived.OrdersHeld
import Derived.Still
import Derived.Deep.RegionHeld3
import Derived.RowKit
import Derived.KernelRfl
import Derived.Deep.Cut
namespace Go.Proofs.Ytodlpofpeoiedaa
open Go.RowKit

theorem pow_le32 {k : Nat} (h : k ≤ 32) : (2 : Int) ^ k ≤ 4294967296 ∧ (0 : Int) < 2 ^ k := by
  have h1 : (2 ^ k : Nat) ≤ 2 ^ 32 := Nat.pow_le_pow_right (by decide) h
  have e : ((2 ^ k : Nat) : Int) = (2 : Int) ^ k := Int.natCast_pow 2 k
  exact ⟨by omega, Int.pow_pos (by decide)⟩

/-- A part that may be: its bits' bounds. -/
theorem partOk_bd {n m s : Int} (hn : n ≤ 32) (h : partOk n m s = true) : 1 ≤ m ∧ m ≤ 65535 ∧ 0 ≤ s ∧ s ≤ 32 := by
  obtain ⟨h1, h2, h3⟩ := partOk_iff.1 h
  rcases widthOf_spec m with ⟨h0, _⟩ | ⟨a, b, he⟩
  · exact absurd h0 h1
  · have := pow_bd a b
    omega

theorem mk_nat {m s : Int} (h0 : 1 ≤ m) (h1 : m ≤ 65535) (h2 : 0 ≤ s) (h3 : s ≤ 32) : ∃ x : Nat, mk m s = x ∧ x < 9223372036854775808 := by
  obtain ⟨p, q⟩ := pow_le32 (k := s.toNat) (by omega)
  have h4 : 0 ≤ m * 2 ^ s.toNat := Int.mul_nonneg (by omega) (by omega)
  have h5 : m * 2 ^ s.toNat ≤ 65535 * 4294967296 := Int.mul_le_mul h1 p (by omega) (by omega)
  refine ⟨(m * 2 ^ s.toNat).toNat, ?_, ?_⟩
  · unfold mk; omega
  · omega

theorem and_zero (x : Nat) (h : x < 9223372036854775808) : bits .and .i64 0 x = 0 := by
  have := and_i64_nat 0 x (by omega) h
  simpa using this
theorem or_zero (x : Nat) (h : x < 9223372036854775808) : bits .or .i64 0 x = x := by
  have := or_i64_nat 0 x (by omega) h
  simpa using this

theorem or_and_nat (x y z : Nat) (hx : x < 9223372036854775808) (hy : y < 9223372036854775808) (hz : z < 9223372036854775808) :
    bits .and .i64 (bits .or .i64 x y) z = 0 ↔ bits .and .i64 x z = 0 ∧ bits .and .i64 y z = 0 := by
  have hxy : x ||| y < 2 ^ 63 := Nat.or_lt_two_pow (by omega) (by omega)
  rw [or_i64_nat x y hx hy, and_i64_nat _ z (by omega) hz, and_i64_nat x z hx hz, and_i64_nat y z hy hz, Nat.and_or_distrib_right]
  have : ((x &&& z ||| y &&& z : Nat) : Int) = 0 ↔ (x &&& z ||| y &&& z) = 0 := by omega
  rw [this, Nat.or_eq_zero_iff]
  omega

theorem valid_any (f : Fmt) (w : World) (hr : f.rs ≤ 9223372036854775807) (hg : f.gs ≤ 9223372036854775807) (hb : f.bs ≤ 9223372036854775807) :
    Calls Try.prog 17 #[fmtV f] w fun e w' => e = .returned (.bool (validB f)) ∧ Below w.heap.size w w' := by
  obtain ⟨a, b, c, d, rm, gm, bm, rs, gs, bs⟩ := f
  by_cases ha : a = 8 ∨ a = 16 ∨ a = 32
  rotate_left
  · have : validB ⟨a, b, c, d, rm, gm, bm, rs, gs, bs⟩ = false := by simp [validB, headOk, ha]
    rw [this]
    exact valid_bits a b c d rm gm bm rs gs bs w (by omega) (by omega) (by omega)
  by_cases hh : b < 1 ∨ a < b ∨ d = false
  · have : validB ⟨a, b, c, d, rm, gm, bm, rs, gs, bs⟩ = false := by
      have : headOk ⟨a, b, c, d, rm, gm, bm, rs, gs, bs⟩ = false := by
        simp only [headOk, decide_eq_false_iff_not]
        rintro ⟨_, h1, h2, h3⟩
        rcases hh with h | h | h
        · omega
        · omega
        · simp_all
      simp [validB, this]
    rw [this]
    exact valid_head a b c d rm gm bm rs gs bs w ha hh
  obtain rfl : d = true := by
    cases d
    · exact absurd (.inr (.inr rfl)) hh
    · rfl
  have h1 : 1 ≤ b := by omega
  have h2 : b ≤ a := by omega
  have hn : a ≤ 32 := by omega
  have hho : headOk ⟨a, b, c, true, rm, gm, bm, rs, gs, bs⟩ = true := by simp [headOk]; omega
  have R1 : ∀ v, partOk a rm rs = v → ∀ w, Calls Try.prog 78 #[.agg #[.int .i64 rm, .int .i64 rs], .int .i64 a] w fun e w' => e = .returned (.bool v) ∧ Below w.heap.size w w' := fun v hv w => hv ▸ right_any rm rs a w ha hr
  have R2 : ∀ v, partOk a gm gs = v → ∀ w, Calls Try.prog 78 #[.agg #[.int .i64 gm, .int .i64 gs], .int .i64 a] w fun e w' => e = .returned (.bool v) ∧ Below w.heap.size w w' := fun v hv w => hv ▸ right_any gm gs a w ha hg
  have R3 : ∀ v, partOk a bm bs = v → ∀ w, Calls Try.prog 78 #[.agg #[.int .i64 bm, .int .i64 bs], .int .i64 a] w fun e w' => e = .returned (.bool v) ∧ Below w.heap.size w w' := fun v hv w => hv ▸ right_any bm bs a w ha hb
  cases p1 : partOk a rm rs with
  | false =>
    rw [show validB ⟨a, b, c, true, rm, gm, bm, rs, gs, bs⟩ = false by simp [validB, p1]]
    exact valid_r1 a b c rm gm bm rs gs bs w ha h1 h2 (R1 _ p1)
  | true =>
  obtain ⟨q1, q2, q3, q4⟩ := partOk_bd hn p1
  have M1 := fun w => mask_any rm rs w (by omega) q2 q3 q4
  obtain ⟨x1, e1, l1⟩ := mk_nat q1 q2 q3 q4
  cases p2 : partOk a gm gs with
  | false =>
    rw [show validB ⟨a, b, c, true, rm, gm, bm, rs, gs, bs⟩ = false by simp [validB, p2]]
    exact valid_r2 a b c rm gm bm rs gs bs (mk rm rs) w ha h1 h2 (R1 _ p1) (R2 _ p2) M1 (by rw [e1]; exact and_zero x1 l1) (by rw [e1]; exact or_zero x1 l1)
  | true =>
  obtain ⟨g1, g2, g3, g4⟩ := partOk_bd hn p2
  have M2 := fun w => mask_any gm gs w (by omega) g2 g3 g4
  obtain ⟨x2, e2, l2⟩ := mk_nat g1 g2 g3 g4
  by_cases a12 : bits .and .i64 (mk rm rs) (mk gm gs) = 0
  rotate_left
  · rw [show validB ⟨a, b, c, true, rm, gm, bm, rs, gs, bs⟩ = false by simp [validB, apart, a12]]
    exact valid_a2 a b c rm gm bm rs gs bs (mk rm rs) (mk gm gs) w ha h1 h2 (R1 _ p1) (R2 _ p2) M1 M2 (by rw [e1]; exact and_zero x1 l1) (by rw [e1]; exact or_zero x1 l1) a12
  cases p3 : partOk a bm bs with
  | false =>
    rw [show validB ⟨a, b, c, true, rm, gm, bm, rs, gs, bs⟩ = false by simp [validB, p3]]
    exact valid_r3 a b c rm gm bm rs gs bs (mk rm rs) (mk gm gs) _ w ha h1 h2 (R1 _ p1) (R2 _ p2) (R3 _ p3) M1 M2 (by rw [e1]; exact and_zero x1 l1) (by rw [e1]; exact or_zero x1 l1) a12 rfl
  | true =>
  obtain ⟨b1, b2, b3, b4⟩ := partOk_bd hn p3
  have M3 := fun w => mask_any bm bs w (by omega) b2 b3 b4
  obtain ⟨x3, e3, l3⟩ := mk_nat b1 b2 b3 b4
  have hor := or_and_nat x1 x2 x3 l1 l2 l3
  rw [← e1, ← e2, ← e3] at hor
  by_cases a3 : bits .and .i64 (bits .or .i64 (mk rm rs) (mk gm gs)) (mk bm bs) = 0
  · obtain ⟨a13, a23⟩ := hor.1 a3
    rw [show validB ⟨a, b, c, true, rm, gm, bm, rs, gs, bs⟩ = true by simp [validB, apart, hho, p1, p2, p3, a12, a13, a23]]
    exact valid_yes a b c rm gm bm rs gs bs (mk rm rs) (mk gm gs) (mk bm bs) _ w ha h1 h2 (R1 _ p1) (R2 _ p2) (R3 _ p3) M1 M2 M3 (by rw [e1]; exact and_zero x1 l1) (by rw [e1]; exact or_zero x1 l1) a12 rfl a3
  · have hx : ¬ (bits .and .i64 (mk rm rs) (mk bm bs) = 0 ∧ bits .and .i64 (mk gm gs) (mk bm bs) = 0) := fun h => a3 (hor.2 h)
    rw [show validB ⟨a, b, c, true, rm, gm, bm, rs, gs, bs⟩ = false by
      have : apart ⟨a, b, c, true, rm, gm, bm, rs, gs, bs⟩ = false := by
        simp only [apart, a12, beq_self_eq_true, Bool.true_and, Bool.and_eq_false_iff, beq_eq_false_iff_ne]
        by_cases h13 : bits .and .i64 (mk rm rs) (mk bm bs) = 0
        · exact .inr fun h23 => hx ⟨h13, h23⟩
        · exact .inl h13
      simp [validB, this]]
    exact valid_a3 a b c rm gm bm rs gs bs (mk rm rs) (mk gm gs) (mk bm bs) _ w ha h1 h2 (R1 _ p1) (R2 _ p2) (R3 _ p3) M1 M2 M3 (by rw [e1]; exact and_zero x1 l1) (by rw [e1]; exact or_zero x1 l1) a12 rfl a3

theorem rvalid_any (f : Fmt) (w : World) :
    Calls Try.prog 18 #[fmtV f] w fun e w' => e = .returned (.bool (validB f)) ∧ Below w.heap.size w w' := by
  obtain ⟨a, b, c, d, rm, gm, bm, rs, gs, bs⟩ := f
  by_cases ha : a = 8 ∨ a = 16 ∨ a = 32
  rotate_left
  · have : validB ⟨a, b, c, d, rm, gm, bm, rs, gs, bs⟩ = false := by simp [validB, headOk, ha]
    rw [this]
    exact rvalid_bits a b c d rm gm bm rs gs bs w (by omega) (by omega) (by omega)
  by_cases hh : b < 1 ∨ a < b ∨ d = false
  · have : validB ⟨a, b, c, d, rm, gm, bm, rs, gs, bs⟩ = false := by
      have : headOk ⟨a, b, c, d, rm, gm, bm, rs, gs, bs⟩ = false := by
        simp only [headOk, decide_eq_false_iff_not]
        rintro ⟨_, h1, h2, h3⟩
        rcases hh with h | h | h
        · omega
        · omega
        · simp_all
      simp [validB, this]
    rw [this]
    exact rvalid_head a b c d rm gm bm rs gs bs w ha hh
  obtain rfl : d = true := by
    cases d
    · exact absurd (.inr (.inr rfl)) hh
    · rfl
  have h1 : 1 ≤ b := by omega
  have h2 : b ≤ a := by omega
  have hn : a ≤ 32 := by omega
  have hho : headOk ⟨a, b, c, true, rm, gm, bm, rs, gs, bs⟩ = true := by simp [headOk]; omega
  have R1 : ∀ v, partOk a rm rs = v → ∀ w, Calls Try.prog 80 #[.int .i64 a, .int .i64 rm, .int .i64 rs] w fun e w' => e = .returned (.bool v) ∧ w = w' := fun v hv w => hv ▸ rpart_any rm rs a w ha
  have R2 : ∀ v, partOk a gm gs = v → ∀ w, Calls Try.prog 80 #[.int .i64 a, .int .i64 gm, .int .i64 gs] w fun e w' => e = .returned (.bool v) ∧ w = w' := fun v hv w => hv ▸ rpart_any gm gs a w ha
  have R3 : ∀ v, partOk a bm bs = v → ∀ w, Calls Try.prog 80 #[.int .i64 a, .int .i64 bm, .int .i64 bs] w fun e w' => e = .returned (.bool v) ∧ w = w' := fun v hv w => hv ▸ rpart_any bm bs a w ha
  cases p1 : partOk a rm rs with
  | false =>
    rw [show validB ⟨a, b, c, true, rm, gm, bm, rs, gs, bs⟩ = false by simp [validB, p1]]
    exact rvalid_r1 a b c rm gm bm rs gs bs w ha h1 h2 (R1 _ p1)
  | true =>
  cases p2 : partOk a gm gs with
  | false =>
    rw [show validB ⟨a, b, c, true, rm, gm, bm, rs, gs, bs⟩ = false by simp [validB, p2]]
    exact rvalid_r2 a b c rm gm bm rs gs bs w ha h1 h2 (R1 _ p1) (R2 _ p2)
  | true =>
  cases p3 : partOk a bm bs with
  | false =>
    rw [show validB ⟨a, b, c, true, rm, gm, bm, rs, gs, bs⟩ = false by simp [validB, p3]]
    exact rvalid_r3 a b c rm gm bm rs gs bs w ha h1 h2 (R1 _ p1) (R2 _ p2) (R3 _ p3)
  | true =>
  obtain ⟨q1, q2, q3, q4⟩ := partOk_bd hn p1
  have M1 := fun w => rmask_any rm rs w (by omega) q2 q3 q4
  obtain ⟨g1, g2, g3, g4⟩ := partOk_bd hn p2
  have M2 := fun w => rmask_any gm gs w (by omega) g2 g3 g4
  obtain ⟨b1, b2, b3, b4⟩ := partOk_bd hn p3
  have M3 := fun w => rmask_any bm bs w (by omega) b2 b3 b4
  by_cases a12 : bits .and .i64 (mk rm rs) (mk gm gs) = 0
  rotate_left
  · rw [show validB ⟨a, b, c, true, rm, gm, bm, rs, gs, bs⟩ = false by simp [validB, apart, a12]]
    exact rvalid_a12 a b c rm gm bm rs gs bs (mk rm rs) (mk gm gs) (mk bm bs) w ha h1 h2 (R1 _ p1) (R2 _ p2) (R3 _ p3) M1 M2 M3 a12
  by_cases a13 : bits .and .i64 (mk rm rs) (mk bm bs) = 0
  rotate_left
  · rw [show validB ⟨a, b, c, true, rm, gm, bm, rs, gs, bs⟩ = false by simp [validB, apart, a13]]
    exact rvalid_a13 a b c rm gm bm rs gs bs (mk rm rs) (mk gm gs) (mk bm bs) w ha h1 h2 (R1 _ p1) (R2 _ p2) (R3 _ p3) M1 M2 M3 a12 a13
  by_cases a23 : bits .and .i64 (mk gm gs) (mk bm bs) = 0
  rotate_left
  · rw [show validB ⟨a, b, c, true, rm, gm, bm, rs, gs, bs⟩ = false by simp [validB, apart, a23]]
    exact rvalid_a23 a b c rm gm bm rs gs bs (mk rm rs) (mk gm gs) (mk bm bs) w ha h1 h2 (R1 _ p1) (R2 _ p2) (R3 _ p3) M1 M2 M3 a12 a13 a23
  · rw [show validB ⟨a, b, c, true, rm, gm, bm, rs, gs, bs⟩ = true by simp [validB, apart, hho, p1, p2, p3, a12, a13, a23]]
    exact rvalid_yes a b c rm gm bm rs gs bs (mk rm rs) (mk gm gs) (mk bm bs) w ha h1 h2 (R1 _ p1) (R2 _ p2) (R3 _ p3) M1 M2 M3 a12 a13 a23

end Go.Proofs.Ytodlpofpeoiedaa

/-
  A format's sixteen bytes: format.Bytes and miradorref13.Bytes.
-/
namespace Go.Proofs.Ytodlpofpeoiedaa
open Go.RowKit

def b2i (b : Bool) : Int := if b then 1 else 0

/-- What is written: how many bytes, and which number. -/
def fieldsF (f : Fmt) : List (Nat × Int) := [(1, f.bits), (1, f.depth), (1, b2i f.big), (1, b2i f.tru), (2, f.rm), (2, f.gm), (2, f.bm), (1, f.rs), (1, f.gs), (1, f.bs)]
def catF (l : List (Nat × Int)) : ByteArray := l.foldl (fun a p => a ++ beB p.1 p.2) ⟨#[]⟩
def allFit (l : List (Nat × Int)) : Bool := l.all fun p => putFits p.1 p.2
/-- A format's sixteen bytes, if they can be. -/
def bytesF (f : Fmt) : ByteArray := if allFit (fieldsF f) then catF (fieldsF f) ++ ⟨#[0, 0, 0]⟩ else ⟨#[]⟩

theorem catF_snoc (l : List (Nat × Int)) (p : Nat × Int) : catF (l ++ [p]) = catF l ++ beB p.1 p.2 := by simp [catF, List.foldl_append]
theorem allFit_snoc (l : List (Nat × Int)) (p : Nat × Int) : allFit (l ++ [p]) = (allFit l && putFits p.1 p.2) := by simp [allFit, List.all_append]
theorem catF_size (l : List (Nat × Int)) (h : ∀ p ∈ l, p.1 ≤ 2) : (catF l).size ≤ 2 * l.length := by
  revert h
  refine snoc_ind (P := fun l => (∀ p ∈ l, p.1 ≤ 2) → (catF l).size ≤ 2 * l.length) (fun _ => by simp [catF, ByteArray.size]) (fun l p ih h => ?_) l
  rw [catF_snoc, ByteArray.size_append, beB_size]
  have := ih fun q hq => h q (by simp [hq])
  have := h p (by simp)
  simp
  omega

/-- Field i: its bytes, its number. -/
def fsz (f : Fmt) (i : Nat) : Nat := ((fieldsF f).getD i (1, 0)).1
def fnn (f : Fmt) (i : Nat) : Int := ((fieldsF f).getD i (1, 0)).2

theorem fsz_12 (f : Fmt) (i : Nat) (h : i < 10) : fsz f i = 1 ∨ fsz f i = 2 := by
  have : i = 0 ∨ i = 1 ∨ i = 2 ∨ i = 3 ∨ i = 4 ∨ i = 5 ∨ i = 6 ∨ i = 7 ∨ i = 8 ∨ i = 9 := by omega
  rcases this with h | h | h | h | h | h | h | h | h | h <;> subst h <;> simp [fsz, fieldsF]

theorem fields_take (f : Fmt) (i : Nat) (h : i < 10) : (fieldsF f).take (i + 1) = (fieldsF f).take i ++ [(fsz f i, fnn f i)] := by
  have hl : i < (fieldsF f).length := h
  rw [List.take_succ_eq_append_getElem hl]
  simp only [fsz, fnn, List.getD_eq_getElem?_getD, List.getElem?_eq_getElem hl, Option.getD_some]

theorem fields_le (f : Fmt) (i : Nat) : (catF ((fieldsF f).take i)).size ≤ 20 := by
  have h := catF_size ((fieldsF f).take i) (fun p hp => by
    have := List.mem_of_mem_take hp
    simp [fieldsF] at this
    rcases this with h | h | h | h | h | h | h | h | h | h <;> subst h <;> simp)
  have h2 : ((fieldsF f).take i).length ≤ 10 := by rw [List.length_take]; exact Nat.min_le_right _ _
  omega

theorem fit_take (f : Fmt) (i : Nat) (h : allFit ((fieldsF f).take i) = false) : bytesF f = ⟨#[]⟩ := by
  have : allFit (fieldsF f) = false := by
    rw [← List.take_append_drop i (fieldsF f)]
    simp only [allFit, List.all_append, Bool.and_eq_false_iff] at h ⊢
    exact .inl h
  simp [bytesF, this]

abbrev arrF (a b x y rm gm bm rs gs bs : Int) : Value := .agg #[.int .i64 1, .int .i64 a, .int .i64 1, .int .i64 b, .int .i64 1, .int .i64 x, .int .i64 1, .int .i64 y, .int .i64 2, .int .i64 rm, .int .i64 2, .int .i64 gm, .int .i64 2, .int .i64 bm, .int .i64 1, .int .i64 rs, .int .i64 1, .int .i64 gs, .int .i64 1, .int .i64 bs]

theorem idxF (f : Fmt) (i : Nat) (h : i < 10) : ∀ w, (Instr.index 112 (arrF f.bits f.depth (b2i f.big) (b2i f.tru) f.rm f.gm f.bm f.rs f.gs f.bs) (.int .i64 i)).run Try.prog w = .ok (.agg #[.int .i64 (fsz f i), .int .i64 (fnn f i)]) w := by
  obtain ⟨a, b, c, d, rm, gm, bm, rs, gs, bs⟩ := f
  have : i = 0 ∨ i = 1 ∨ i = 2 ∨ i = 3 ∨ i = 4 ∨ i = 5 ∨ i = 6 ∨ i = 7 ∨ i = 8 ∨ i = 9 := by omega
  intro w
  rcases this with h | h | h | h | h | h | h | h | h | h <;> subst h <;> kernel_rfl

theorem put_yes (k : Nat) (hk : k = 1 ∨ k = 2 ∨ k = 4) (n : Int) (w : World) (h : putFits k n = true) :
    Calls Try.prog 83 #[.int .i64 k, .int .i64 n] w fun e w' => e = .returned (.tuple #[.string (beB k n), .int .i64 0]) ∧ Below w.heap.size w w' := by
  have := put_any k hk n w
  unfold putS putE at this
  rwa [if_pos h, if_pos h] at this
theorem put_no (k : Nat) (hk : k = 1 ∨ k = 2 ∨ k = 4) (n : Int) (w : World) (h : putFits k n = false) :
    Calls Try.prog 83 #[.int .i64 k, .int .i64 n] w fun e w' => e = .returned (.tuple #[.string ⟨#[]⟩, .int .i64 1]) ∧ Below w.heap.size w w' := by
  have := put_any k hk n w
  unfold putS putE at this
  rwa [if_neg (by simp [h]), if_neg (by simp [h])] at this

theorem bit_b2i (b : Bool) (w : World) : Calls Try.prog 82 #[.bool b] w fun e w' => e = .returned (.int .i64 (b2i b)) ∧ w' = w := (bit_any b w).mono fun _ _ ⟨h1, h2⟩ => ⟨h1, h2.symm⟩

attribute [local go_sem] beB_size

set_option maxHeartbeats 1600000 in
set_option maxRecDepth 100000 in
theorem fbytes_any (f : Fmt) (w : World) :
    Calls Try.prog 19 #[.agg #[.int .i64 f.bits, .int .i64 f.depth, .bool f.big, .bool f.tru, .int .i64 f.rm, .int .i64 f.gm, .int .i64 f.bm, .int .i64 f.rs, .int .i64 f.gs, .int .i64 f.bs]] w
      fun e w' => e = .returned (.string (bytesF f)) ∧ Below w.heap.size w w' := by
  go_enter Try.func19, Try.ntmps19
  go_wp2_with fail
  go_quiet ((go_at_call 82; exact Calls.quiet_of_same (bit_b2i _ _)))
  go_wp2_with fail
  go_loopw [3, 41] (fun s i wr => ∃ k : Nat, k ≤ 10 ∧ i = .int .i64 k ∧ s = .string (catF ((fieldsF f).take k)) ∧ allFit ((fieldsF f).take k) = true ∧ Below w.heap.size w wr) (fun _ i _ => 10 - (intOf i).toNat)
  case atStart => exact ⟨0, by omega, rfl, rfl, rfl, below_drewN ((Below.refl _ _).alloc (Nat.le_refl _) _) _⟩
  case round =>
    obtain ⟨k, hk, rfl, rfl, hfit, hbel⟩ := hrel
    have hsz := fields_le f k
    have HF := hide hfit
    clear hfit
    by_cases hlt : k < 10
    · have hidx := idxF f k hlt
      have h12 := fsz_12 f k hlt
      have hle : fsz f k ≤ 2 := by omega
      have HT := hide (fields_take f k hlt)
      have H12 := hide (show fsz f k = 1 ∨ fsz f k = 2 ∨ fsz f k = 4 by omega)
      clear h12
      generalize hS : catF ((fieldsF f).take k) = S at *
      have HS := hide hS
      clear hS
      cases hp : putFits (fsz f k) (fnn f k) with
      | true =>
        have HP := hide hp
        clear hp
        go_wp2_with (go_at_call 83; refine (put_yes _ H12.out _ _ HP.out).mono ?_; rintro e w' ⟨rfl, hb⟩)
        go_roundw
        case rel => exact ⟨k + 1, by omega, by go_num, by rw [HT.out, catF_snoc, HS.out], by rw [HT.out, allFit_snoc, HF.out, HP.out]; rfl, (hbel.alloc hbel.size _).trans (by have := hbel.size; exact Below.mono (by assumption) (by simp; omega))⟩
        case measure => simp [intOf]; omega
      | false =>
        have HP := hide hp
        clear hp
        go_wp2_with (go_at_call 83; refine (put_no _ H12.out _ _ HP.out).mono ?_; rintro e w' ⟨rfl, hb⟩)
        go_ret
        refine ⟨?_, (hbel.alloc hbel.size _).trans (by have := hbel.size; exact Below.mono (by assumption) (by simp; omega))⟩
        rw [fit_take f (k + 1) (by rw [HT.out, allFit_snoc, HP.out]; simp)]
        rfl
    · obtain rfl : k = 10 := by omega
      go_wp2
      go_ret
      refine ⟨?_, hbel⟩
      have : bytesF f = catF ((fieldsF f).take 10) ++ ⟨#[0, 0, 0]⟩ := by
        have h := HF.out
        have e : (fieldsF f).take 10 = fieldsF f := rfl
        rw [e] at h ⊢
        simp [bytesF, h]
      rw [this]
      rfl

end Go.Proofs.Ytodlpofpeoiedaa

/-
  A format's sixteen bytes by the document: miradorref13.Bytes.
-/
namespace Go.Proofs.Ytodlpofpeoiedaa
open Go.RowKit

/-- A region that reads, and at last makes memory: in the order of the text. -/
theorem still_tail {P : Program} {id : Nat} {Q : Exit → Act → World → Prop} {a : Act} {w : World} {l : List Oper} (n : Nat) (hm : P.follows .mixedOrders = true) (hB : Region.lexTailB .any l.toArray n = true)
    (h : wpStill P l.toArray w.drew (fun a' => wpList P l.toArray Q (l.drop n) a' w.drew) (l.take n) a) : (Code.region id l.toArray true).wp P Q a w := wp_region_still_tail n hm hB h

attribute [local go_sem] beB_size

theorem rput_yes (k : Nat) (hk : k = 1 ∨ k = 2 ∨ k = 4) (n : Int) (w : World) (h : putFits k n = true) :
    Calls Try.prog 85 #[.int .i64 k, .int .i64 n] w fun e w' => e = .returned (.tuple #[.string (beB k n), .int .i64 0]) ∧ Below w.heap.size w w' := by
  have := rput_any k hk n w
  unfold putS putE at this
  rwa [if_pos h, if_pos h] at this
theorem rput_no (k : Nat) (hk : k = 1 ∨ k = 2 ∨ k = 4) (n : Int) (w : World) (h : putFits k n = false) :
    Calls Try.prog 85 #[.int .i64 k, .int .i64 n] w fun e w' => e = .returned (.tuple #[.string ⟨#[]⟩, .int .i64 1]) ∧ Below w.heap.size w w' := by
  have := rput_any k hk n w
  unfold putS putE at this
  rwa [if_neg (by simp [h]), if_neg (by simp [h])] at this

theorem flag_b2i (b : Bool) (w : World) : Calls Try.prog 84 #[.bool b] w fun e w' => e = .returned (.int .i64 (b2i b)) ∧ w' = w := (flag_any b w).mono fun _ _ ⟨h1, h2⟩ => ⟨h1, h2.symm⟩

set_option maxHeartbeats 1600000 in
set_option maxRecDepth 100000 in
theorem rfbytes_any (f : Fmt) (w : World) :
    Calls Try.prog 20 #[.agg #[.int .i64 f.bits, .int .i64 f.depth, .bool f.big, .bool f.tru, .int .i64 f.rm, .int .i64 f.gm, .int .i64 f.bm, .int .i64 f.rs, .int .i64 f.gs, .int .i64 f.bs]] w
      fun e w' => e = .returned (.string (bytesF f)) ∧ Below w.heap.size w w' := by
  go_enter Try.func20, Try.ntmps20
  go_wp2_with fail
  refine still_tail 22 (by kernel_rfl) (by kernel_rfl) ?_
  simp only [List.take_succ_cons, List.take_zero, List.drop_succ_cons, List.drop_zero]
  repeat still_step
  still_call (flag_b2i _ _)
  repeat still_step
  still_call (flag_b2i _ _)
  repeat still_step
  refine wpStill_nil ?_
  go_wp2_with fail
  go_loopw [4, 5] (fun s i wr => ∃ k : Nat, k ≤ 10 ∧ i = .int .i64 k ∧ s = .string (catF ((fieldsF f).take k)) ∧ allFit ((fieldsF f).take k) = true ∧ Below w.heap.size w wr ∧ (∀ j, j < 10 → wr.cell? ⟨w.heap.size + 1, j, none⟩ = some (.int .i64 (fnn f j))) ∧ w.heap.size + 1 < wr.heap.size) (fun _ i _ => 10 - (intOf i).toNat)
  case atStart =>
    refine ⟨0, by omega, rfl, rfl, rfl, ?_, ?_, ?_⟩
    · exact (((Below.refl _ _).alloc (Nat.le_refl _) _).alloc (by simp) _).drew
    · intro j hj
      rw [World.cell?_drew, World.cell?_alloc_at _ _ _ _ (by simp)]
      have : j = 0 ∨ j = 1 ∨ j = 2 ∨ j = 3 ∨ j = 4 ∨ j = 5 ∨ j = 6 ∨ j = 7 ∨ j = 8 ∨ j = 9 := by omega
      rcases this with h | h | h | h | h | h | h | h | h | h <;> subst h <;> rfl
    · simp
  case round =>
    obtain ⟨k, hk, rfl, rfl, hfit, hbel, hcell, hz⟩ := hrel
    have hsz := fields_le f k
    have HF := hide hfit
    clear hfit
    by_cases hlt : k < 10
    · have hx := hcell k hlt
      have HC := hide hcell
      clear hcell
      have h46 : (4 ≤ k ∧ k ≤ 6 ∧ fsz f k = 2) ∨ ((k < 4 ∨ 6 < k) ∧ fsz f k = 1) := by
        have : k = 0 ∨ k = 1 ∨ k = 2 ∨ k = 3 ∨ k = 4 ∨ k = 5 ∨ k = 6 ∨ k = 7 ∨ k = 8 ∨ k = 9 := by omega
        rcases this with h | h | h | h | h | h | h | h | h | h <;> subst h <;> simp [fsz, fieldsF]
      have HT := hide (fields_take f k hlt)
      generalize hS : catF ((fieldsF f).take k) = S at *
      have HS := hide hS
      clear hS
      have HB := hide hbel
      clear hbel
      rcases h46 with ⟨h4, h6, hz2⟩ | ⟨h46, hz1⟩
      · have HZ := hide hz2
        clear hz2
        cases hp : putFits 2 (fnn f k) with
        | true =>
          have HP := hide hp
          clear hp
          go_wp2_with (go_at_call 85; refine (rput_yes 2 (by simp) _ _ HP.out).mono ?_; rintro e w' ⟨rfl, hb⟩)
          go_roundw
          case rel => exact ⟨k + 1, by omega, by go_num, by rw [HT.out, catF_snoc, HS.out, HZ.out], by rw [HT.out, allFit_snoc, HF.out, HZ.out, HP.out]; rfl, HB.out.trans (Below.mono (by assumption) HB.out.size), fun j hj => (Below.cell (p := ⟨w.heap.size + 1, j, none⟩) (by assumption) hz).trans (HC.out j hj), Nat.lt_of_lt_of_le hz (Below.size (by assumption))⟩
          case measure => simp [intOf]; omega
        | false =>
          have HP := hide hp
          clear hp
          go_wp2_with (go_at_call 85; refine (rput_no 2 (by simp) _ _ HP.out).mono ?_; rintro e w' ⟨rfl, hb⟩)
          go_ret
          refine ⟨?_, HB.out.trans (Below.mono (by assumption) HB.out.size)⟩
          rw [fit_take f (k + 1) (by rw [HT.out, allFit_snoc, HZ.out, HP.out]; simp)]
          rfl
      · have HZ := hide hz1
        clear hz1
        rcases h46 with h4 | h6
        all_goals
          cases hp : putFits 1 (fnn f k) with
          | true =>
            have HP := hide hp
            clear hp
            go_wp2_with (go_at_call 85; refine (rput_yes 1 (by simp) _ _ HP.out).mono ?_; rintro e w' ⟨rfl, hb⟩)
            go_roundw
            case rel => exact ⟨k + 1, by omega, by go_num, by rw [HT.out, catF_snoc, HS.out, HZ.out], by rw [HT.out, allFit_snoc, HF.out, HZ.out, HP.out]; rfl, HB.out.trans (Below.mono (by assumption) HB.out.size), fun j hj => (Below.cell (p := ⟨w.heap.size + 1, j, none⟩) (by assumption) hz).trans (HC.out j hj), Nat.lt_of_lt_of_le hz (Below.size (by assumption))⟩
            case measure => simp [intOf]; omega
          | false =>
            have HP := hide hp
            clear hp
            go_wp2_with (go_at_call 85; refine (rput_no 1 (by simp) _ _ HP.out).mono ?_; rintro e w' ⟨rfl, hb⟩)
            go_ret
            refine ⟨?_, HB.out.trans (Below.mono (by assumption) HB.out.size)⟩
            rw [fit_take f (k + 1) (by rw [HT.out, allFit_snoc, HZ.out, HP.out]; simp)]
            rfl
    · obtain rfl : k = 10 := by omega
      clear hcell
      go_wp2
      go_ret
      refine ⟨?_, hbel⟩
      have : bytesF f = catF ((fieldsF f).take 10) ++ ⟨#[0, 0, 0]⟩ := by
        have h := HF.out
        have e : (fieldsF f).take 10 = fieldsF f := rfl
        rw [e] at h ⊢
        simp [bytesF, h]
      rw [this]
      rfl

end Go.Proofs.Ytodlpofpeoiedaa

/-
  The format of sixteen bytes: plain words, and steps of a cursor.
-/
namespace Go.Proofs.Ytodlpofpeoiedaa
open Go.RowKit

def byteV (s : ByteArray) (i : Nat) : Int := beV (s.extract i (i + 1)).data.toList
def wordV (s : ByteArray) (i : Nat) : Int := beV (s.extract i (i + 2)).data.toList

/-- What sixteen bytes say. -/
def rawF (s : ByteArray) : Fmt := ⟨byteV s 0, byteV s 1, byteV s 2 != 0, byteV s 3 != 0, wordV s 4, wordV s 6, wordV s 8, byteV s 10, byteV s 11, byteV s 12⟩
def zeroF : Fmt := ⟨0, 0, false, false, 0, 0, 0, 0, 0, 0⟩
/-- A format of bytes, and the error. -/
def parseE (s : ByteArray) : Int := if s.size < 16 then 2 else if validB (rawF s) then 0 else 130
def parseF (s : ByteArray) : Fmt := if parseE s = 0 then rawF s else zeroF

/-! ### steps of a cursor -/
def Cu.run (c : Cu) (l : List Nat) : Cu := l.foldl Cu.bytes c

theorem Cu.run_fail : ∀ (l : List Nat) (c : Cu), c.e ≠ 0 → (c.run l).e = c.e
  | [], _, _ => rfl
  | n :: l, c, h => by
    have hf : ¬ c.fits n = true := by simp [Cu.fits, h]
    have e1 : (c.bytes n).e = c.e := by rw [Cu.bytes_no hf]; exact err2_1 2 h
    show ((c.bytes n).run l).e = c.e
    rw [Cu.run_fail l (c.bytes n) (by rw [e1]; exact h), e1]

theorem Cu.run_short : ∀ (l : List Nat) (c : Cu), c.e = 0 → c.s.size - c.i < l.sum → (c.run l).e = 2
  | [], c, _, h => by simp at h
  | n :: l, c, he, h => by
    show ((c.bytes n).run l).e = 2
    by_cases hf : c.fits n = true
    · rw [Cu.bytes_yes hf]
      refine Cu.run_short l _ rfl ?_
      simp only [Cu.fits, Bool.and_eq_true, beq_iff_eq, decide_eq_true_eq] at hf
      simp only [List.sum_cons] at h
      show c.s.size - (c.i + n) < l.sum
      omega
    · have e1 : (c.bytes n).e = 2 := by rw [Cu.bytes_no hf]; exact err2_0 2 he
      rw [Cu.run_fail l (c.bytes n) (by rw [e1]; decide), e1]

theorem Cu.step {s : ByteArray} {i n : Nat} (h : i + n ≤ s.size) : (⟨s, i, 0⟩ : Cu).bytes n = ⟨s, i + n, 0⟩ ∧ (⟨s, i, 0⟩ : Cu).out n = s.extract i (i + n) ∧ (⟨s, i, 0⟩ : Cu).int n = beV (s.extract i (i + n)).data.toList := by
  have hf : (⟨s, i, 0⟩ : Cu).fits n = true := by simp [Cu.fits]; omega
  refine ⟨Cu.bytes_yes hf, Cu.out_yes hf, ?_⟩
  unfold Cu.int
  rw [Cu.out_yes hf]

theorem IsCur.other {T b : Nat} {c : Cu} {w : World} (h : IsCur T b c w) {p : Addr} (hp : b ≠ p.block) (v : Value) : IsCur T b c (w.setCell p v) := (Below.heap_setCell w p v b hp).trans h

theorem IsCur.alloc {T b : Nat} {c : Cu} {w : World} (h : IsCur T b c w) (o : Obj) : IsCur T b c (w.alloc o) := h.keep ((Below.refl _ _).alloc (Nat.le_refl _) _)

/-- A block known whole. -/
def Blk (b t : Nat) (C : Array Value) (w : World) : Prop := w.heap[b]? = some (.cells C t (0, 0))
theorem Blk.cell {b t : Nat} {C : Array Value} {w : World} (h : Blk b t C w) (j : Nat) : w.cell? ⟨b, j, none⟩ = C[j]? := by unfold Blk at h; simp [World.cell?, h]
theorem Blk.fr {b t : Nat} {C : Array Value} {w : World} (h : Blk b t C w) (j : Nat) : w.frozen? ⟨b, j, none⟩ = false := by unfold Blk at h; simp [World.frozen?, h]
theorem Blk.lt {b t : Nat} {C : Array Value} {w : World} (h : Blk b t C w) : b < w.heap.size := by
  rcases Nat.lt_or_ge b w.heap.size with h' | h'
  · exact h'
  · unfold Blk at h; simp [Array.getElem?_eq_none h'] at h
theorem Blk.new (w : World) (t : Nat) (C : Array Value) : Blk w.heap.size t C (w.alloc (.cells C t)) := heap_alloc_new w _
theorem Blk.alloc {b t : Nat} {C : Array Value} {w : World} (h : Blk b t C w) (o : Obj) : Blk b t C (w.alloc o) := (Below.heap_alloc w o b h.lt).trans h
theorem Blk.only {b t c : Nat} {C : Array Value} {w w' : World} (h : Blk b t C w) (ho : Only c w w') (hne : b ≠ c) : Blk b t C w' := (ho.block b h.lt (fun e => hne (by injection e))).trans h
theorem Blk.below {b t : Nat} {C : Array Value} {w w' : World} (h : Blk b t C w) (ho : Below w.heap.size w w') : Blk b t C w' := (ho.block b h.lt).trans h
theorem Blk.set {b t : Nat} {C : Array Value} {w : World} (h : Blk b t C w) (j : Nat) (v : Value) : Blk b t (C.setIfInBounds j v) (w.setCell ⟨b, j, none⟩ v) := set_block h j v
theorem Blk.drewN {b t : Nat} {C : Array Value} {w : World} (h : Blk b t C w) (n : Nat) : Blk b t C (w.drewN n) := h
theorem Blk.other {b t : Nat} {C : Array Value} {w : World} (h : Blk b t C w) {p : Addr} (hp : b ≠ p.block) (v : Value) : Blk b t C (w.setCell p v) := (Below.heap_setCell w p v b hp).trans h

/-- A result that lies in a block known whole, and a second one. -/
theorem results_at {P : Program} {fn : Func} {p u : Tmp} {ty b t : Nat} {C : Array Value} {W : World} {d : TypeDesc} (h : fn.results = #[.cell p ty, .tmp u]) (tmps : Array Value) (hp : tmps.getD p undef = .pointer (some ⟨b, 0, none⟩)) (hB : Blk b t C W)
    (hu : P.underlying ty = some d) (hd : (match d with | .struct _ | .array _ _ => true | _ => false) = true) (hi : (P.info? ty).map (·.size) = some C.size) :
    (results fn tmps).run P W = .ok (.tuple #[.agg C, tmps.getD u undef]) W := by
  rw [results_cell_tmp h, hp]
  have := run_loadVar_row W b t ty C (0, 0) d hB hu hd hi
  simp [asAddr, Result.andThen, this]

end Go.Proofs.Ytodlpofpeoiedaa

/-
  The contract of format.Parse.
-/
namespace Go.Proofs.Ytodlpofpeoiedaa
open Go.RowKit

theorem int_at (b : Nat) (c c' : Cu) (k : Nat) (v : Int) (hk : k = 1 ∨ k = 2 ∨ k = 4) (w : World) (h : IsCur 163 b c w) (hok : Hid c.ok) (hc : Hid (c' = c.bytes k)) (hv : Hid (v = c.int k)) :
    Calls Try.prog 73 #[.pointer (some ⟨b, 0, none⟩), .int .i64 k] w fun en w' => en = .returned (.int .i64 v) ∧ IsCur 163 b c' w' ∧ Only b w w' := by
  rw [hc.out, hv.out]
  exact int_any b c k hk w h hok.out

theorem bytes_at (b : Nat) (c c' : Cu) (k : Nat) (v : ByteArray) (w : World) (hk : k ≤ 1099511627776) (h : IsCur 163 b c w) (hok : Hid c.ok) (hc : Hid (c' = c.bytes k)) (hv : Hid (v = c.out k)) :
    Calls Try.prog 74 #[.pointer (some ⟨b, 0, none⟩), .int .i64 k] w fun en w' => en = .returned (.string v) ∧ IsCur 163 b c' w' ∧ Only b w w' := by
  rw [hc.out, hv.out]
  exact bytes_any b c k w h hok.out hk

theorem ok_at {c c' : Cu} {k : Nat} (hc : Hid (c' = c.bytes k)) (h : Hid c.ok) : Hid c'.ok := by
  rw [hc.out]
  exact c.bytes_ok h.out k

theorem fits_int (s : ByteArray) (i k : Nat) : 0 ≤ beV (s.extract i (i + k)).data.toList := (beV_bd _).1

abbrev zeroC : Array Value := #[.int .i64 0, .int .i64 0, .bool false, .bool false, .int .i64 0, .int .i64 0, .int .i64 0, .int .i64 0, .int .i64 0, .int .i64 0]

set_option maxHeartbeats 3200000 in
set_option maxRecDepth 100000 in
theorem parse_short (s : ByteArray) (w : World) (hs : s.size ≤ 1099511627776) (h16 : s.size < 16) :
    Calls Try.prog 15 #[.string s] w fun e w' => e = .returned (.tuple #[.agg #[.int .i64 0, .int .i64 0, .bool false, .bool false, .int .i64 0, .int .i64 0, .int .i64 0, .int .i64 0, .int .i64 0, .int .i64 0], .int .i64 2]) ∧ Below w.heap.size w w' := by
  obtain ⟨c0, hc0⟩ : ∃ c : Cu, c = ⟨s, 0, 0⟩ := ⟨_, rfl⟩
  have K0 : Hid c0.ok := by rw [hc0]; exact ⟨Nat.zero_le _, hs⟩
  obtain ⟨c1, e1⟩ : ∃ c, c = c0.bytes 1 := ⟨_, rfl⟩
  obtain ⟨v1, f1⟩ : ∃ v, v = c0.int 1 := ⟨_, rfl⟩
  have E1 := hide e1; clear e1; have V1 := hide f1; clear f1; have K1 := ok_at E1 K0
  obtain ⟨c2, e2⟩ : ∃ c, c = c1.bytes 1 := ⟨_, rfl⟩
  obtain ⟨v2, f2⟩ : ∃ v, v = c1.int 1 := ⟨_, rfl⟩
  have E2 := hide e2; clear e2; have V2 := hide f2; clear f2; have K2 := ok_at E2 K1
  obtain ⟨c3, e3⟩ : ∃ c, c = c2.bytes 1 := ⟨_, rfl⟩
  obtain ⟨v3, f3⟩ : ∃ v, v = c2.int 1 := ⟨_, rfl⟩
  have E3 := hide e3; clear e3; have V3 := hide f3; clear f3; have K3 := ok_at E3 K2
  obtain ⟨c4, e4⟩ : ∃ c, c = c3.bytes 1 := ⟨_, rfl⟩
  obtain ⟨v4, f4⟩ : ∃ v, v = c3.int 1 := ⟨_, rfl⟩
  have E4 := hide e4; clear e4; have V4 := hide f4; clear f4; have K4 := ok_at E4 K3
  obtain ⟨c5, e5⟩ : ∃ c, c = c4.bytes 2 := ⟨_, rfl⟩
  obtain ⟨v5, f5⟩ : ∃ v, v = c4.int 2 := ⟨_, rfl⟩
  have E5 := hide e5; clear e5; have V5 := hide f5; clear f5; have K5 := ok_at E5 K4
  obtain ⟨c6, e6⟩ : ∃ c, c = c5.bytes 2 := ⟨_, rfl⟩
  obtain ⟨v6, f6⟩ : ∃ v, v = c5.int 2 := ⟨_, rfl⟩
  have E6 := hide e6; clear e6; have V6 := hide f6; clear f6; have K6 := ok_at E6 K5
  obtain ⟨c7, e7⟩ : ∃ c, c = c6.bytes 2 := ⟨_, rfl⟩
  obtain ⟨v7, f7⟩ : ∃ v, v = c6.int 2 := ⟨_, rfl⟩
  have E7 := hide e7; clear e7; have V7 := hide f7; clear f7; have K7 := ok_at E7 K6
  obtain ⟨c8, e8⟩ : ∃ c, c = c7.bytes 1 := ⟨_, rfl⟩
  obtain ⟨v8, f8⟩ : ∃ v, v = c7.int 1 := ⟨_, rfl⟩
  have E8 := hide e8; clear e8; have V8 := hide f8; clear f8; have K8 := ok_at E8 K7
  obtain ⟨c9, e9⟩ : ∃ c, c = c8.bytes 1 := ⟨_, rfl⟩
  obtain ⟨v9, f9⟩ : ∃ v, v = c8.int 1 := ⟨_, rfl⟩
  have E9 := hide e9; clear e9; have V9 := hide f9; clear f9; have K9 := ok_at E9 K8
  obtain ⟨c10, e10⟩ : ∃ c, c = c9.bytes 1 := ⟨_, rfl⟩
  obtain ⟨v10, f10⟩ : ∃ v, v = c9.int 1 := ⟨_, rfl⟩
  have E10 := hide e10; clear e10; have V10 := hide f10; clear f10; have K10 := ok_at E10 K9
  obtain ⟨c11, e11⟩ : ∃ c, c = c10.bytes 3 := ⟨_, rfl⟩
  obtain ⟨v11, f11⟩ : ∃ v, v = c10.out 3 := ⟨_, rfl⟩
  have hsh : Hid (c11.e = 2) := by
    have := Cu.run_short [1, 1, 1, 1, 2, 2, 2, 1, 1, 1, 3] c0 (by rw [hc0]) (by rw [hc0]; simp; omega)
    rw [e11, E10.out, E9.out, E8.out, E7.out, E6.out, E5.out, E4.out, E3.out, E2.out, E1.out]
    exact this
  have E11 := hide e11; clear e11; have V11 := hide f11; clear f11
  have C0 := hide hc0; clear hc0
  go_enter Try.func15, Try.ntmps15
  go_wp2_with fail
  refine (new_any s _).mono ?_
  rintro e w0 ⟨rfl, hc, hb0, hz0⟩
  rw [← C0.out] at hc
  have R0 : Blk w.heap.size 23 zeroC w0 := (Blk.new w 23 zeroC).below hb0
  have B0 : Below w.heap.size w w0 := ((Below.refl _ _).alloc (Nat.le_refl _) _).trans (hb0.mono (by simp))
  simp only [World.size_alloc] at hz0
  simp only [World.size_alloc] at hc
  have nR : w.heap.size ≠ w.heap.size + 1 := by omega
  have I0 := hide hc; clear hc
  -- two bytes
  go_wp2_with fail
  refine (int_at _ c0 c1 1 v1 (by simp) _ I0.out K0 E1 V1).mono ?_
  rintro e w1 ⟨rfl, hc1, ho1⟩
  have R1 := hide (R0.only ho1 nR)
  have B1 := hide (Below.grown B0 ho1 B0.size (by intro k hk; cases hk; omega))
  have I1 := hide hc1; clear hc1 ho1
  go_wp2_with fail
  refine (int_at _ c1 c2 1 v2 (by simp) _ I1.out K1 E2 V2).mono ?_
  rintro e w2 ⟨rfl, hc2, ho2⟩
  have R2 := hide (R1.out.only ho2 nR)
  have B2 := hide (Below.grown B1.out ho2 B1.out.size (by intro k hk; cases hk; omega))
  have I2 := hide hc2; clear hc2 ho2
  have HZ : w.heap.size + 1 < w2.heap.size := I2.out.lt
  have nF1 : w.heap.size + 1 ≠ w2.heap.size := by omega
  have nF : w2.heap.size ≠ w.heap.size + 1 := by omega
  have nRF : w.heap.size ≠ w2.heap.size := by omega
  have hRF : w.heap.size ≤ w2.heap.size := by omega
  have F2 := hide (Blk.new w2 23 #[.int .i64 v1, .int .i64 v2, .bool false, .bool false, .int .i64 0, .int .i64 0, .int .i64 0, .int .i64 0, .int .i64 0, .int .i64 0])
  go_wp2_with fail
  refine (int_at _ c2 c3 1 v3 (by simp) _ (I2.out.alloc _) K2 E3 V3).mono ?_
  rintro e w3 ⟨rfl, hc3, ho3⟩
  have R3 := hide ((R2.out.alloc _).only ho3 nR)
  have B3 := hide (Below.grown (B2.out.alloc B2.out.size _) ho3 (B2.out.alloc B2.out.size _).size (by intro k hk; cases hk; omega))
  have F3 := hide (F2.out.only ho3 nF)
  have I3 := hide hc3; clear hc3 ho3
  go_wp2_with fail
  refine (int_at _ c3 c4 1 v4 (by simp) _ I3.out K3 E4 V4).mono ?_
  rintro e w4 ⟨rfl, hc4, ho4⟩
  have R4 := hide (R3.out.only ho4 nR)
  have B4 := hide (Below.grown B3.out ho4 B3.out.size (by intro k hk; cases hk; omega))
  have F4 := hide (F3.out.only ho4 nF)
  have I4 := hide hc4; clear hc4 ho4
  have f2 : w4.cell? ⟨w2.heap.size, 2, none⟩ = some (.bool false) := F4.out.cell 2
  have r2 := F4.out.fr 2
  have f3 : w4.cell? ⟨w2.heap.size, 3, none⟩ = some (.bool false) := F4.out.cell 3
  have r3 := F4.out.fr 3
  have F4s := hide (show Blk w2.heap.size 23 #[.int .i64 v1, .int .i64 v2, .bool (v3 != 0), .bool (v4 != 0), .int .i64 0, .int .i64 0, .int .i64 0, .int .i64 0, .int .i64 0, .int .i64 0] ((w4.setCell ⟨w2.heap.size, 2, none⟩ (.bool (v3 != 0))).setCell ⟨w2.heap.size, 3, none⟩ (.bool (v4 != 0))) from ((F4.out.set 2 (.bool (v3 != 0))).set 3 (.bool (v4 != 0))))
  go_wp2_with fail
  refine (int_at _ c4 c5 2 v5 (by simp) _ ((I4.out.other nF1 _).other nF1 _) K4 E5 V5).mono ?_
  rintro e w5 ⟨rfl, hc5, ho5⟩
  have R5 := hide (((R4.out.other nRF _).other nRF _).only ho5 nR)
  have B5 := hide (Below.grown ((B4.out.setCell hRF _).setCell hRF _) ho5 ((B4.out.setCell hRF _).setCell hRF _).size (by intro k hk; cases hk; omega))
  have F5 := hide (F4s.out.only ho5 nF)
  have I5 := hide hc5; clear hc5 ho5
  go_wp2_with fail
  refine (int_at _ c5 c6 2 v6 (by simp) _ I5.out K5 E6 V6).mono ?_
  rintro e w6 ⟨rfl, hc6, ho6⟩
  have R6 := hide (R5.out.only ho6 nR)
  have B6 := hide (Below.grown B5.out ho6 B5.out.size (by intro k hk; cases hk; omega))
  have F6 := hide (F5.out.only ho6 nF)
  have I6 := hide hc6; clear hc6 ho6
  go_wp2_with fail
  refine (int_at _ c6 c7 2 v7 (by simp) _ I6.out K6 E7 V7).mono ?_
  rintro e w7 ⟨rfl, hc7, ho7⟩
  have R7 := hide (R6.out.only ho7 nR)
  have B7 := hide (Below.grown B6.out ho7 B6.out.size (by intro k hk; cases hk; omega))
  have F7 := hide (F6.out.only ho7 nF)
  have I7 := hide hc7; clear hc7 ho7
  have f4 : w7.cell? ⟨w2.heap.size, 4, none⟩ = some (.int .i64 0) := F7.out.cell 4
  have r4 := F7.out.fr 4
  have f5 : w7.cell? ⟨w2.heap.size, 5, none⟩ = some (.int .i64 0) := F7.out.cell 5
  have r5 := F7.out.fr 5
  have f6 : w7.cell? ⟨w2.heap.size, 6, none⟩ = some (.int .i64 0) := F7.out.cell 6
  have r6 := F7.out.fr 6
  have F7s := hide (show Blk w2.heap.size 23 #[.int .i64 v1, .int .i64 v2, .bool (v3 != 0), .bool (v4 != 0), .int .i64 v5, .int .i64 v6, .int .i64 v7, .int .i64 0, .int .i64 0, .int .i64 0] (((w7.setCell ⟨w2.heap.size, 4, none⟩ (.int .i64 v5)).setCell ⟨w2.heap.size, 5, none⟩ (.int .i64 v6)).setCell ⟨w2.heap.size, 6, none⟩ (.int .i64 v7)) from (((F7.out.set 4 (.int .i64 v5)).set 5 (.int .i64 v6)).set 6 (.int .i64 v7)))
  go_wp2_with fail
  refine (int_at _ c7 c8 1 v8 (by simp) _ (((I7.out.other nF1 _).other nF1 _).other nF1 _) K7 E8 V8).mono ?_
  rintro e w8 ⟨rfl, hc8, ho8⟩
  have R8 := hide ((((R7.out.other nRF _).other nRF _).other nRF _).only ho8 nR)
  have B8 := hide (Below.grown (((B7.out.setCell hRF _).setCell hRF _).setCell hRF _) ho8 (((B7.out.setCell hRF _).setCell hRF _).setCell hRF _).size (by intro k hk; cases hk; omega))
  have F8 := hide (F7s.out.only ho8 nF)
  have I8 := hide hc8; clear hc8 ho8
  go_wp2_with fail
  refine (int_at _ c8 c9 1 v9 (by simp) _ I8.out K8 E9 V9).mono ?_
  rintro e w9 ⟨rfl, hc9, ho9⟩
  have R9 := hide (R8.out.only ho9 nR)
  have B9 := hide (Below.grown B8.out ho9 B8.out.size (by intro k hk; cases hk; omega))
  have F9 := hide (F8.out.only ho9 nF)
  have I9 := hide hc9; clear hc9 ho9
  go_wp2_with fail
  refine (int_at _ c9 c10 1 v10 (by simp) _ I9.out K9 E10 V10).mono ?_
  rintro e w10 ⟨rfl, hc10, ho10⟩
  have R10 := hide (R9.out.only ho10 nR)
  have B10 := hide (Below.grown B9.out ho10 B9.out.size (by intro k hk; cases hk; omega))
  have F10 := hide (F9.out.only ho10 nF)
  have I10 := hide hc10; clear hc10 ho10
  have f7 : w10.cell? ⟨w2.heap.size, 7, none⟩ = some (.int .i64 0) := F10.out.cell 7
  have r7 := F10.out.fr 7
  have f8 : w10.cell? ⟨w2.heap.size, 8, none⟩ = some (.int .i64 0) := F10.out.cell 8
  have r8 := F10.out.fr 8
  have f9 : w10.cell? ⟨w2.heap.size, 9, none⟩ = some (.int .i64 0) := F10.out.cell 9
  have r9 := F10.out.fr 9
  have F10s := hide (show Blk w2.heap.size 23 #[.int .i64 v1, .int .i64 v2, .bool (v3 != 0), .bool (v4 != 0), .int .i64 v5, .int .i64 v6, .int .i64 v7, .int .i64 v8, .int .i64 v9, .int .i64 v10] (((w10.setCell ⟨w2.heap.size, 7, none⟩ (.int .i64 v8)).setCell ⟨w2.heap.size, 8, none⟩ (.int .i64 v9)).setCell ⟨w2.heap.size, 9, none⟩ (.int .i64 v10)) from (((F10.out.set 7 (.int .i64 v8)).set 8 (.int .i64 v9)).set 9 (.int .i64 v10)))
  go_wp2_with fail
  refine (bytes_at _ c10 c11 3 v11 _ (by decide) (((I10.out.other nF1 _).other nF1 _).other nF1 _) K10 E11 V11).mono ?_
  rintro e w11 ⟨rfl, hc11, ho11⟩
  have R11 := hide ((((R10.out.other nRF _).other nRF _).other nRF _).only ho11 nR)
  have B11 := hide (Below.grown (((B10.out.setCell hRF _).setCell hRF _).setCell hRF _) ho11 (((B10.out.setCell hRF _).setCell hRF _).setCell hRF _).size (by intro k hk; cases hk; omega))
  have F11 := hide (F10s.out.only ho11 nF)
  have I11 := hide hc11; clear hc11 ho11
  have hE : Calls Try.prog 75 #[.pointer (some ⟨w.heap.size + 1, 0, none⟩)] w11 fun en w' => en = .returned (.int .i64 2) ∧ w11 = w' := by
    have := err_any _ c11 _ I11.out
    rw [hsh.out] at this
    exact this
  have HE := hide hE; clear hE
  have g0 : w11.cell? ⟨w.heap.size, 0, none⟩ = some (.int .i64 0) := R11.out.cell 0
  have q0 : w11.frozen? ⟨w.heap.size, 0, none⟩ = false := R11.out.fr 0
  have g1 : w11.cell? ⟨w.heap.size, 1, none⟩ = some (.int .i64 0) := R11.out.cell 1
  have q1 : w11.frozen? ⟨w.heap.size, 1, none⟩ = false := R11.out.fr 1
  have g2 : w11.cell? ⟨w.heap.size, 2, none⟩ = some (.bool false) := R11.out.cell 2
  have q2 : w11.frozen? ⟨w.heap.size, 2, none⟩ = false := R11.out.fr 2
  have g3 : w11.cell? ⟨w.heap.size, 3, none⟩ = some (.bool false) := R11.out.cell 3
  have q3 : w11.frozen? ⟨w.heap.size, 3, none⟩ = false := R11.out.fr 3
  have g4 : w11.cell? ⟨w.heap.size, 4, none⟩ = some (.int .i64 0) := R11.out.cell 4
  have q4 : w11.frozen? ⟨w.heap.size, 4, none⟩ = false := R11.out.fr 4
  have g5 : w11.cell? ⟨w.heap.size, 5, none⟩ = some (.int .i64 0) := R11.out.cell 5
  have q5 : w11.frozen? ⟨w.heap.size, 5, none⟩ = false := R11.out.fr 5
  have g6 : w11.cell? ⟨w.heap.size, 6, none⟩ = some (.int .i64 0) := R11.out.cell 6
  have q6 : w11.frozen? ⟨w.heap.size, 6, none⟩ = false := R11.out.fr 6
  have g7 : w11.cell? ⟨w.heap.size, 7, none⟩ = some (.int .i64 0) := R11.out.cell 7
  have q7 : w11.frozen? ⟨w.heap.size, 7, none⟩ = false := R11.out.fr 7
  have g8 : w11.cell? ⟨w.heap.size, 8, none⟩ = some (.int .i64 0) := R11.out.cell 8
  have q8 : w11.frozen? ⟨w.heap.size, 8, none⟩ = false := R11.out.fr 8
  have g9 : w11.cell? ⟨w.heap.size, 9, none⟩ = some (.int .i64 0) := R11.out.cell 9
  have q9 : w11.frozen? ⟨w.heap.size, 9, none⟩ = false := R11.out.fr 9
  go_wp2_with fail
  refine HE.out.mono ?_
  rintro e w12 ⟨rfl, rfl⟩
  go_wp2_with fail
  refine HE.out.mono ?_
  rintro e w12 ⟨rfl, rfl⟩
  go_wp2_with fail
  have RF0 := hide (show Blk w.heap.size 23 #[.int .i64 0, .int .i64 0, .bool false, .bool false, .int .i64 0, .int .i64 0, .int .i64 0, .int .i64 0, .int .i64 0, .int .i64 0] _ from R11.out.set 0 (.int .i64 0))
  have RF1 := hide (show Blk w.heap.size 23 #[.int .i64 0, .int .i64 0, .bool false, .bool false, .int .i64 0, .int .i64 0, .int .i64 0, .int .i64 0, .int .i64 0, .int .i64 0] _ from RF0.out.set 1 (.int .i64 0))
  have RF2 := hide (show Blk w.heap.size 23 #[.int .i64 0, .int .i64 0, .bool false, .bool false, .int .i64 0, .int .i64 0, .int .i64 0, .int .i64 0, .int .i64 0, .int .i64 0] _ from RF1.out.set 2 (.bool false))
  have RF3 := hide (show Blk w.heap.size 23 #[.int .i64 0, .int .i64 0, .bool false, .bool false, .int .i64 0, .int .i64 0, .int .i64 0, .int .i64 0, .int .i64 0, .int .i64 0] _ from RF2.out.set 3 (.bool false))
  have RF4 := hide (show Blk w.heap.size 23 #[.int .i64 0, .int .i64 0, .bool false, .bool false, .int .i64 0, .int .i64 0, .int .i64 0, .int .i64 0, .int .i64 0, .int .i64 0] _ from RF3.out.set 4 (.int .i64 0))
  have RF5 := hide (show Blk w.heap.size 23 #[.int .i64 0, .int .i64 0, .bool false, .bool false, .int .i64 0, .int .i64 0, .int .i64 0, .int .i64 0, .int .i64 0, .int .i64 0] _ from RF4.out.set 5 (.int .i64 0))
  have RF6 := hide (show Blk w.heap.size 23 #[.int .i64 0, .int .i64 0, .bool false, .bool false, .int .i64 0, .int .i64 0, .int .i64 0, .int .i64 0, .int .i64 0, .int .i64 0] _ from RF5.out.set 6 (.int .i64 0))
  have RF7 := hide (show Blk w.heap.size 23 #[.int .i64 0, .int .i64 0, .bool false, .bool false, .int .i64 0, .int .i64 0, .int .i64 0, .int .i64 0, .int .i64 0, .int .i64 0] _ from RF6.out.set 7 (.int .i64 0))
  have RF8 := hide (show Blk w.heap.size 23 #[.int .i64 0, .int .i64 0, .bool false, .bool false, .int .i64 0, .int .i64 0, .int .i64 0, .int .i64 0, .int .i64 0, .int .i64 0] _ from RF7.out.set 8 (.int .i64 0))
  have RF9 := hide (show Blk w.heap.size 23 #[.int .i64 0, .int .i64 0, .bool false, .bool false, .int .i64 0, .int .i64 0, .int .i64 0, .int .i64 0, .int .i64 0, .int .i64 0] _ from RF8.out.set 9 (.int .i64 0))
  exact bodyPost_ret (results_at Try.results15 _ rfl RF9.out Try.underlying23 rfl (by kernel_rfl)) rfl ⟨rfl, ((((((((((B11.out.setCell (p := ⟨w.heap.size, 0, none⟩) (Nat.le_refl _) _).setCell (p := ⟨w.heap.size, 1, none⟩) (Nat.le_refl _) _).setCell (p := ⟨w.heap.size, 2, none⟩) (Nat.le_refl _) _).setCell (p := ⟨w.heap.size, 3, none⟩) (Nat.le_refl _) _).setCell (p := ⟨w.heap.size, 4, none⟩) (Nat.le_refl _) _).setCell (p := ⟨w.heap.size, 5, none⟩) (Nat.le_refl _) _).setCell (p := ⟨w.heap.size, 6, none⟩) (Nat.le_refl _) _).setCell (p := ⟨w.heap.size, 7, none⟩) (Nat.le_refl _) _).setCell (p := ⟨w.heap.size, 8, none⟩) (Nat.le_refl _) _).setCell (p := ⟨w.heap.size, 9, none⟩) (Nat.le_refl _) _)⟩

end Go.Proofs.Ytodlpofpeoiedaa

/-
  The contract of format.Parse at sixteen bytes or more.
-/
namespace Go.Proofs.Ytodlpofpeoiedaa
open Go.RowKit

theorem byteV_le (s : ByteArray) (i : Nat) : byteV s i ≤ 9223372036854775807 := by
  have h := (beV_bd (s.extract i (i + 1)).data.toList).2
  have hl : (s.extract i (i + 1)).data.toList.length ≤ 1 := by
    rw [Array.length_toList]
    show (s.extract i (i + 1)).size ≤ 1
    rw [ByteArray.size_extract]
    omega
  have := beV_lt (s.extract i (i + 1)).data.toList (by omega)
  unfold byteV
  omega

set_option maxHeartbeats 3200000 in
set_option maxRecDepth 100000 in
theorem parse_yes (s : ByteArray) (w : World) (hs : s.size ≤ 1099511627776) (h16 : 16 ≤ s.size) (hval : validB (rawF s) = true) :
    Calls Try.prog 15 #[.string s] w fun e w' => e = .returned (.tuple #[fmtV (rawF s), .int .i64 0]) ∧ Below w.heap.size w w' := by
  obtain ⟨c0, hc0⟩ : ∃ c : Cu, c = ⟨s, 0, 0⟩ := ⟨_, rfl⟩
  have K0 : Hid c0.ok := by rw [hc0]; exact ⟨Nat.zero_le _, hs⟩
  obtain ⟨c1, hc1⟩ : ∃ c : Cu, c = ⟨s, 1, 0⟩ := ⟨_, rfl⟩
  obtain ⟨v1, hv1⟩ : ∃ v, v = byteV s 0 := ⟨_, rfl⟩
  have st1 := Cu.step (s := s) (i := 0) (n := 1) (by omega)
  have E1 := hide (show c1 = c0.bytes 1 by rw [hc0, hc1]; exact st1.1.symm)
  have V1 := hide (show v1 = c0.int 1 by rw [hc0, hv1]; exact st1.2.2.symm)
  have K1 := ok_at E1 K0
  clear st1
  obtain ⟨c2, hc2⟩ : ∃ c : Cu, c = ⟨s, 2, 0⟩ := ⟨_, rfl⟩
  obtain ⟨v2, hv2⟩ : ∃ v, v = byteV s 1 := ⟨_, rfl⟩
  have st2 := Cu.step (s := s) (i := 1) (n := 1) (by omega)
  have E2 := hide (show c2 = c1.bytes 1 by rw [hc1, hc2]; exact st2.1.symm)
  have V2 := hide (show v2 = c1.int 1 by rw [hc1, hv2]; exact st2.2.2.symm)
  have K2 := ok_at E2 K1
  clear st2
  obtain ⟨c3, hc3⟩ : ∃ c : Cu, c = ⟨s, 3, 0⟩ := ⟨_, rfl⟩
  obtain ⟨v3, hv3⟩ : ∃ v, v = byteV s 2 := ⟨_, rfl⟩
  have st3 := Cu.step (s := s) (i := 2) (n := 1) (by omega)
  have E3 := hide (show c3 = c2.bytes 1 by rw [hc2, hc3]; exact st3.1.symm)
  have V3 := hide (show v3 = c2.int 1 by rw [hc2, hv3]; exact st3.2.2.symm)
  have K3 := ok_at E3 K2
  clear st3
  obtain ⟨c4, hc4⟩ : ∃ c : Cu, c = ⟨s, 4, 0⟩ := ⟨_, rfl⟩
  obtain ⟨v4, hv4⟩ : ∃ v, v = byteV s 3 := ⟨_, rfl⟩
  have st4 := Cu.step (s := s) (i := 3) (n := 1) (by omega)
  have E4 := hide (show c4 = c3.bytes 1 by rw [hc3, hc4]; exact st4.1.symm)
  have V4 := hide (show v4 = c3.int 1 by rw [hc3, hv4]; exact st4.2.2.symm)
  have K4 := ok_at E4 K3
  clear st4
  obtain ⟨c5, hc5⟩ : ∃ c : Cu, c = ⟨s, 6, 0⟩ := ⟨_, rfl⟩
  obtain ⟨v5, hv5⟩ : ∃ v, v = wordV s 4 := ⟨_, rfl⟩
  have st5 := Cu.step (s := s) (i := 4) (n := 2) (by omega)
  have E5 := hide (show c5 = c4.bytes 2 by rw [hc4, hc5]; exact st5.1.symm)
  have V5 := hide (show v5 = c4.int 2 by rw [hc4, hv5]; exact st5.2.2.symm)
  have K5 := ok_at E5 K4
  clear st5
  obtain ⟨c6, hc6⟩ : ∃ c : Cu, c = ⟨s, 8, 0⟩ := ⟨_, rfl⟩
  obtain ⟨v6, hv6⟩ : ∃ v, v = wordV s 6 := ⟨_, rfl⟩
  have st6 := Cu.step (s := s) (i := 6) (n := 2) (by omega)
  have E6 := hide (show c6 = c5.bytes 2 by rw [hc5, hc6]; exact st6.1.symm)
  have V6 := hide (show v6 = c5.int 2 by rw [hc5, hv6]; exact st6.2.2.symm)
  have K6 := ok_at E6 K5
  clear st6
  obtain ⟨c7, hc7⟩ : ∃ c : Cu, c = ⟨s, 10, 0⟩ := ⟨_, rfl⟩
  obtain ⟨v7, hv7⟩ : ∃ v, v = wordV s 8 := ⟨_, rfl⟩
  have st7 := Cu.step (s := s) (i := 8) (n := 2) (by omega)
  have E7 := hide (show c7 = c6.bytes 2 by rw [hc6, hc7]; exact st7.1.symm)
  have V7 := hide (show v7 = c6.int 2 by rw [hc6, hv7]; exact st7.2.2.symm)
  have K7 := ok_at E7 K6
  clear st7
  obtain ⟨c8, hc8⟩ : ∃ c : Cu, c = ⟨s, 11, 0⟩ := ⟨_, rfl⟩
  obtain ⟨v8, hv8⟩ : ∃ v, v = byteV s 10 := ⟨_, rfl⟩
  have st8 := Cu.step (s := s) (i := 10) (n := 1) (by omega)
  have E8 := hide (show c8 = c7.bytes 1 by rw [hc7, hc8]; exact st8.1.symm)
  have V8 := hide (show v8 = c7.int 1 by rw [hc7, hv8]; exact st8.2.2.symm)
  have K8 := ok_at E8 K7
  clear st8
  obtain ⟨c9, hc9⟩ : ∃ c : Cu, c = ⟨s, 12, 0⟩ := ⟨_, rfl⟩
  obtain ⟨v9, hv9⟩ : ∃ v, v = byteV s 11 := ⟨_, rfl⟩
  have st9 := Cu.step (s := s) (i := 11) (n := 1) (by omega)
  have E9 := hide (show c9 = c8.bytes 1 by rw [hc8, hc9]; exact st9.1.symm)
  have V9 := hide (show v9 = c8.int 1 by rw [hc8, hv9]; exact st9.2.2.symm)
  have K9 := ok_at E9 K8
  clear st9
  obtain ⟨c10, hc10⟩ : ∃ c : Cu, c = ⟨s, 13, 0⟩ := ⟨_, rfl⟩
  obtain ⟨v10, hv10⟩ : ∃ v, v = byteV s 12 := ⟨_, rfl⟩
  have st10 := Cu.step (s := s) (i := 12) (n := 1) (by omega)
  have E10 := hide (show c10 = c9.bytes 1 by rw [hc9, hc10]; exact st10.1.symm)
  have V10 := hide (show v10 = c9.int 1 by rw [hc9, hv10]; exact st10.2.2.symm)
  have K10 := ok_at E10 K9
  clear st10
  obtain ⟨c11, hc11⟩ : ∃ c : Cu, c = ⟨s, 16, 0⟩ := ⟨_, rfl⟩
  obtain ⟨v11, f11⟩ : ∃ v, v = c10.out 3 := ⟨_, rfl⟩
  have E11 := hide (show c11 = c10.bytes 3 by rw [hc10, hc11]; exact (Cu.step (s := s) (i := 13) (n := 3) (by omega)).1.symm)
  have V11 := hide f11; clear f11
  have hsh : Hid (c11.e = 0) := by rw [hc11]; exact rfl
  have hraw : rawF s = ⟨v1, v2, v3 != 0, v4 != 0, v5, v6, v7, v8, v9, v10⟩ := by rw [hv1, hv2, hv3, hv4, hv5, hv6, hv7, hv8, hv9, hv10]; rfl
  have HV : Hid (∀ w, Calls Try.prog 17 #[.agg #[.int .i64 v1, .int .i64 v2, .bool (v3 != 0), .bool (v4 != 0), .int .i64 v5, .int .i64 v6, .int .i64 v7, .int .i64 v8, .int .i64 v9, .int .i64 v10]] w fun e w' => e = .returned (.bool true) ∧ Below w.heap.size w w') := by
    intro w
    have := valid_any (rawF s) w (by rw [hraw, hv8]; exact byteV_le s 10) (by rw [hraw, hv9]; exact byteV_le s 11) (by rw [hraw, hv10]; exact byteV_le s 12)
    rw [hval, hraw] at this
    exact this
  have hR : Hid (rawF s = ⟨v1, v2, v3 != 0, v4 != 0, v5, v6, v7, v8, v9, v10⟩) := hraw
  clear hraw hval
  have C0 := hide hc0
  clear hc0 hc1 hc2 hc3 hc4 hc5 hc6 hc7 hc8 hc9 hc10 hc11 hv1 hv2 hv3 hv4 hv5 hv6 hv7 hv8 hv9 hv10
  go_enter Try.func15, Try.ntmps15
  go_wp2_with fail
  refine (new_any s _).mono ?_
  rintro e w0 ⟨rfl, hc, hb0, hz0⟩
  rw [← C0.out] at hc
  have R0 : Blk w.heap.size 23 zeroC w0 := (Blk.new w 23 zeroC).below hb0
  have B0 : Below w.heap.size w w0 := ((Below.refl _ _).alloc (Nat.le_refl _) _).trans (hb0.mono (by simp))
  simp only [World.size_alloc] at hz0
  simp only [World.size_alloc] at hc
  have nR : w.heap.size ≠ w.heap.size + 1 := by omega
  have I0 := hide hc; clear hc
  -- two bytes
  go_wp2_with fail
  refine (int_at _ c0 c1 1 v1 (by simp) _ I0.out K0 E1 V1).mono ?_
  rintro e w1 ⟨rfl, hc1, ho1⟩
  have R1 := hide (R0.only ho1 nR)
  have B1 := hide (Below.grown B0 ho1 B0.size (by intro k hk; cases hk; omega))
  have I1 := hide hc1; clear hc1 ho1
  go_wp2_with fail
  refine (int_at _ c1 c2 1 v2 (by simp) _ I1.out K1 E2 V2).mono ?_
  rintro e w2 ⟨rfl, hc2, ho2⟩
  have R2 := hide (R1.out.only ho2 nR)
  have B2 := hide (Below.grown B1.out ho2 B1.out.size (by intro k hk; cases hk; omega))
  have I2 := hide hc2; clear hc2 ho2
  have HZ : w.heap.size + 1 < w2.heap.size := I2.out.lt
  have nF1 : w.heap.size + 1 ≠ w2.heap.size := by omega
  have nF : w2.heap.size ≠ w.heap.size + 1 := by omega
  have nRF : w.heap.size ≠ w2.heap.size := by omega
  have hRF : w.heap.size ≤ w2.heap.size := by omega
  have F2 := hide (Blk.new w2 23 #[.int .i64 v1, .int .i64 v2, .bool false, .bool false, .int .i64 0, .int .i64 0, .int .i64 0, .int .i64 0, .int .i64 0, .int .i64 0])
  go_wp2_with fail
  refine (int_at _ c2 c3 1 v3 (by simp) _ (I2.out.alloc _) K2 E3 V3).mono ?_
  rintro e w3 ⟨rfl, hc3, ho3⟩
  have R3 := hide ((R2.out.alloc _).only ho3 nR)
  have B3 := hide (Below.grown (B2.out.alloc B2.out.size _) ho3 (B2.out.alloc B2.out.size _).size (by intro k hk; cases hk; omega))
  have F3 := hide (F2.out.only ho3 nF)
  have I3 := hide hc3; clear hc3 ho3
  go_wp2_with fail
  refine (int_at _ c3 c4 1 v4 (by simp) _ I3.out K3 E4 V4).mono ?_
  rintro e w4 ⟨rfl, hc4, ho4⟩
  have R4 := hide (R3.out.only ho4 nR)
  have B4 := hide (Below.grown B3.out ho4 B3.out.size (by intro k hk; cases hk; omega))
  have F4 := hide (F3.out.only ho4 nF)
  have I4 := hide hc4; clear hc4 ho4
  have f2 : w4.cell? ⟨w2.heap.size, 2, none⟩ = some (.bool false) := F4.out.cell 2
  have r2 := F4.out.fr 2
  have f3 : w4.cell? ⟨w2.heap.size, 3, none⟩ = some (.bool false) := F4.out.cell 3
  have r3 := F4.out.fr 3
  have F4s := hide (show Blk w2.heap.size 23 #[.int .i64 v1, .int .i64 v2, .bool (v3 != 0), .bool (v4 != 0), .int .i64 0, .int .i64 0, .int .i64 0, .int .i64 0, .int .i64 0, .int .i64 0] ((w4.setCell ⟨w2.heap.size, 2, none⟩ (.bool (v3 != 0))).setCell ⟨w2.heap.size, 3, none⟩ (.bool (v4 != 0))) from ((F4.out.set 2 (.bool (v3 != 0))).set 3 (.bool (v4 != 0))))
  go_wp2_with fail
  refine (int_at _ c4 c5 2 v5 (by simp) _ ((I4.out.other nF1 _).other nF1 _) K4 E5 V5).mono ?_
  rintro e w5 ⟨rfl, hc5, ho5⟩
  have R5 := hide (((R4.out.other nRF _).other nRF _).only ho5 nR)
  have B5 := hide (Below.grown ((B4.out.setCell hRF _).setCell hRF _) ho5 ((B4.out.setCell hRF _).setCell hRF _).size (by intro k hk; cases hk; omega))
  have F5 := hide (F4s.out.only ho5 nF)
  have I5 := hide hc5; clear hc5 ho5
  go_wp2_with fail
  refine (int_at _ c5 c6 2 v6 (by simp) _ I5.out K5 E6 V6).mono ?_
  rintro e w6 ⟨rfl, hc6, ho6⟩
  have R6 := hide (R5.out.only ho6 nR)
  have B6 := hide (Below.grown B5.out ho6 B5.out.size (by intro k hk; cases hk; omega))
  have F6 := hide (F5.out.only ho6 nF)
  have I6 := hide hc6; clear hc6 ho6
  go_wp2_with fail
  refine (int_at _ c6 c7 2 v7 (by simp) _ I6.out K6 E7 V7).mono ?_
  rintro e w7 ⟨rfl, hc7, ho7⟩
  have R7 := hide (R6.out.only ho7 nR)
  have B7 := hide (Below.grown B6.out ho7 B6.out.size (by intro k hk; cases hk; omega))
  have F7 := hide (F6.out.only ho7 nF)
  have I7 := hide hc7; clear hc7 ho7
  have f4 : w7.cell? ⟨w2.heap.size, 4, none⟩ = some (.int .i64 0) := F7.out.cell 4
  have r4 := F7.out.fr 4
  have f5 : w7.cell? ⟨w2.heap.size, 5, none⟩ = some (.int .i64 0) := F7.out.cell 5
  have r5 := F7.out.fr 5
  have f6 : w7.cell? ⟨w2.heap.size, 6, none⟩ = some (.int .i64 0) := F7.out.cell 6
  have r6 := F7.out.fr 6
  have F7s := hide (show Blk w2.heap.size 23 #[.int .i64 v1, .int .i64 v2, .bool (v3 != 0), .bool (v4 != 0), .int .i64 v5, .int .i64 v6, .int .i64 v7, .int .i64 0, .int .i64 0, .int .i64 0] (((w7.setCell ⟨w2.heap.size, 4, none⟩ (.int .i64 v5)).setCell ⟨w2.heap.size, 5, none⟩ (.int .i64 v6)).setCell ⟨w2.heap.size, 6, none⟩ (.int .i64 v7)) from (((F7.out.set 4 (.int .i64 v5)).set 5 (.int .i64 v6)).set 6 (.int .i64 v7)))
  go_wp2_with fail
  refine (int_at _ c7 c8 1 v8 (by simp) _ (((I7.out.other nF1 _).other nF1 _).other nF1 _) K7 E8 V8).mono ?_
  rintro e w8 ⟨rfl, hc8, ho8⟩
  have R8 := hide ((((R7.out.other nRF _).other nRF _).other nRF _).only ho8 nR)
  have B8 := hide (Below.grown (((B7.out.setCell hRF _).setCell hRF _).setCell hRF _) ho8 (((B7.out.setCell hRF _).setCell hRF _).setCell hRF _).size (by intro k hk; cases hk; omega))
  have F8 := hide (F7s.out.only ho8 nF)
  have I8 := hide hc8; clear hc8 ho8
  go_wp2_with fail
  refine (int_at _ c8 c9 1 v9 (by simp) _ I8.out K8 E9 V9).mono ?_
  rintro e w9 ⟨rfl, hc9, ho9⟩
  have R9 := hide (R8.out.only ho9 nR)
  have B9 := hide (Below.grown B8.out ho9 B8.out.size (by intro k hk; cases hk; omega))
  have F9 := hide (F8.out.only ho9 nF)
  have I9 := hide hc9; clear hc9 ho9
  go_wp2_with fail
  refine (int_at _ c9 c10 1 v10 (by simp) _ I9.out K9 E10 V10).mono ?_
  rintro e w10 ⟨rfl, hc10, ho10⟩
  have R10 := hide (R9.out.only ho10 nR)
  have B10 := hide (Below.grown B9.out ho10 B9.out.size (by intro k hk; cases hk; omega))
  have F10 := hide (F9.out.only ho10 nF)
  have I10 := hide hc10; clear hc10 ho10
  have f7 : w10.cell? ⟨w2.heap.size, 7, none⟩ = some (.int .i64 0) := F10.out.cell 7
  have r7 := F10.out.fr 7
  have f8 : w10.cell? ⟨w2.heap.size, 8, none⟩ = some (.int .i64 0) := F10.out.cell 8
  have r8 := F10.out.fr 8
  have f9 : w10.cell? ⟨w2.heap.size, 9, none⟩ = some (.int .i64 0) := F10.out.cell 9
  have r9 := F10.out.fr 9
  have F10s := hide (show Blk w2.heap.size 23 #[.int .i64 v1, .int .i64 v2, .bool (v3 != 0), .bool (v4 != 0), .int .i64 v5, .int .i64 v6, .int .i64 v7, .int .i64 v8, .int .i64 v9, .int .i64 v10] (((w10.setCell ⟨w2.heap.size, 7, none⟩ (.int .i64 v8)).setCell ⟨w2.heap.size, 8, none⟩ (.int .i64 v9)).setCell ⟨w2.heap.size, 9, none⟩ (.int .i64 v10)) from (((F10.out.set 7 (.int .i64 v8)).set 8 (.int .i64 v9)).set 9 (.int .i64 v10)))
  go_wp2_with fail
  refine (bytes_at _ c10 c11 3 v11 _ (by decide) (((I10.out.other nF1 _).other nF1 _).other nF1 _) K10 E11 V11).mono ?_
  rintro e w11 ⟨rfl, hc11, ho11⟩
  have R11 := hide ((((R10.out.other nRF _).other nRF _).other nRF _).only ho11 nR)
  have B11 := hide (Below.grown (((B10.out.setCell hRF _).setCell hRF _).setCell hRF _) ho11 (((B10.out.setCell hRF _).setCell hRF _).setCell hRF _).size (by intro k hk; cases hk; omega))
  have F11 := hide (F10s.out.only ho11 nF)
  have I11 := hide hc11; clear hc11 ho11
  have hE : Calls Try.prog 75 #[.pointer (some ⟨w.heap.size + 1, 0, none⟩)] w11 fun en w' => en = .returned (.int .i64 0) ∧ w11 = w' := by
    have := err_any _ c11 _ I11.out
    rw [hsh.out] at this
    exact this
  have HE := hide hE; clear hE
  go_wp2_with fail
  refine HE.out.mono ?_
  rintro e w12 ⟨rfl, rfl⟩
  have t0 : w11.cell? ⟨w2.heap.size, 0, none⟩ = some (.int .i64 v1) := F11.out.cell 0
  have t1 : w11.cell? ⟨w2.heap.size, 1, none⟩ = some (.int .i64 v2) := F11.out.cell 1
  have t2 : w11.cell? ⟨w2.heap.size, 2, none⟩ = some (.bool (v3 != 0)) := F11.out.cell 2
  have t3 : w11.cell? ⟨w2.heap.size, 3, none⟩ = some (.bool (v4 != 0)) := F11.out.cell 3
  have t4 : w11.cell? ⟨w2.heap.size, 4, none⟩ = some (.int .i64 v5) := F11.out.cell 4
  have t5 : w11.cell? ⟨w2.heap.size, 5, none⟩ = some (.int .i64 v6) := F11.out.cell 5
  have t6 : w11.cell? ⟨w2.heap.size, 6, none⟩ = some (.int .i64 v7) := F11.out.cell 6
  have t7 : w11.cell? ⟨w2.heap.size, 7, none⟩ = some (.int .i64 v8) := F11.out.cell 7
  have t8 : w11.cell? ⟨w2.heap.size, 8, none⟩ = some (.int .i64 v9) := F11.out.cell 8
  have t9 : w11.cell? ⟨w2.heap.size, 9, none⟩ = some (.int .i64 v10) := F11.out.cell 9
  go_wp2_with fail
  refine (HV.out _).mono ?_
  rintro e w12 ⟨rfl, hb12⟩
  have R12 := hide (R11.out.below hb12)
  have F12 := hide (F11.out.below hb12)
  have B12 := hide (B11.out.trans (hb12.mono B11.out.size))
  clear t0 t1 t2 t3 t4 t5 t6 t7 t8 t9
  have g0 : w12.cell? ⟨w.heap.size, 0, none⟩ = some (.int .i64 0) := R12.out.cell 0
  have q0 : w12.frozen? ⟨w.heap.size, 0, none⟩ = false := R12.out.fr 0
  have g1 : w12.cell? ⟨w.heap.size, 1, none⟩ = some (.int .i64 0) := R12.out.cell 1
  have q1 : w12.frozen? ⟨w.heap.size, 1, none⟩ = false := R12.out.fr 1
  have g2 : w12.cell? ⟨w.heap.size, 2, none⟩ = some (.bool false) := R12.out.cell 2
  have q2 : w12.frozen? ⟨w.heap.size, 2, none⟩ = false := R12.out.fr 2
  have g3 : w12.cell? ⟨w.heap.size, 3, none⟩ = some (.bool false) := R12.out.cell 3
  have q3 : w12.frozen? ⟨w.heap.size, 3, none⟩ = false := R12.out.fr 3
  have g4 : w12.cell? ⟨w.heap.size, 4, none⟩ = some (.int .i64 0) := R12.out.cell 4
  have q4 : w12.frozen? ⟨w.heap.size, 4, none⟩ = false := R12.out.fr 4
  have g5 : w12.cell? ⟨w.heap.size, 5, none⟩ = some (.int .i64 0) := R12.out.cell 5
  have q5 : w12.frozen? ⟨w.heap.size, 5, none⟩ = false := R12.out.fr 5
  have g6 : w12.cell? ⟨w.heap.size, 6, none⟩ = some (.int .i64 0) := R12.out.cell 6
  have q6 : w12.frozen? ⟨w.heap.size, 6, none⟩ = false := R12.out.fr 6
  have g7 : w12.cell? ⟨w.heap.size, 7, none⟩ = some (.int .i64 0) := R12.out.cell 7
  have q7 : w12.frozen? ⟨w.heap.size, 7, none⟩ = false := R12.out.fr 7
  have g8 : w12.cell? ⟨w.heap.size, 8, none⟩ = some (.int .i64 0) := R12.out.cell 8
  have q8 : w12.frozen? ⟨w.heap.size, 8, none⟩ = false := R12.out.fr 8
  have g9 : w12.cell? ⟨w.heap.size, 9, none⟩ = some (.int .i64 0) := R12.out.cell 9
  have q9 : w12.frozen? ⟨w.heap.size, 9, none⟩ = false := R12.out.fr 9
  have t0 : w12.cell? ⟨w2.heap.size, 0, none⟩ = some (.int .i64 v1) := F12.out.cell 0
  have t1 : w12.cell? ⟨w2.heap.size, 1, none⟩ = some (.int .i64 v2) := F12.out.cell 1
  have t2 : w12.cell? ⟨w2.heap.size, 2, none⟩ = some (.bool (v3 != 0)) := F12.out.cell 2
  have t3 : w12.cell? ⟨w2.heap.size, 3, none⟩ = some (.bool (v4 != 0)) := F12.out.cell 3
  have t4 : w12.cell? ⟨w2.heap.size, 4, none⟩ = some (.int .i64 v5) := F12.out.cell 4
  have t5 : w12.cell? ⟨w2.heap.size, 5, none⟩ = some (.int .i64 v6) := F12.out.cell 5
  have t6 : w12.cell? ⟨w2.heap.size, 6, none⟩ = some (.int .i64 v7) := F12.out.cell 6
  have t7 : w12.cell? ⟨w2.heap.size, 7, none⟩ = some (.int .i64 v8) := F12.out.cell 7
  have t8 : w12.cell? ⟨w2.heap.size, 8, none⟩ = some (.int .i64 v9) := F12.out.cell 8
  have t9 : w12.cell? ⟨w2.heap.size, 9, none⟩ = some (.int .i64 v10) := F12.out.cell 9
  go_wp2_with fail
  have RF0 := hide (show Blk w.heap.size 23 #[.int .i64 v1, .int .i64 0, .bool false, .bool false, .int .i64 0, .int .i64 0, .int .i64 0, .int .i64 0, .int .i64 0, .int .i64 0] _ from R12.out.set 0 (.int .i64 v1))
  have RF1 := hide (show Blk w.heap.size 23 #[.int .i64 v1, .int .i64 v2, .bool false, .bool false, .int .i64 0, .int .i64 0, .int .i64 0, .int .i64 0, .int .i64 0, .int .i64 0] _ from RF0.out.set 1 (.int .i64 v2))
  have RF2 := hide (show Blk w.heap.size 23 #[.int .i64 v1, .int .i64 v2, .bool (v3 != 0), .bool false, .int .i64 0, .int .i64 0, .int .i64 0, .int .i64 0, .int .i64 0, .int .i64 0] _ from RF1.out.set 2 (.bool (v3 != 0)))
  have RF3 := hide (show Blk w.heap.size 23 #[.int .i64 v1, .int .i64 v2, .bool (v3 != 0), .bool (v4 != 0), .int .i64 0, .int .i64 0, .int .i64 0, .int .i64 0, .int .i64 0, .int .i64 0] _ from RF2.out.set 3 (.bool (v4 != 0)))
  have RF4 := hide (show Blk w.heap.size 23 #[.int .i64 v1, .int .i64 v2, .bool (v3 != 0), .bool (v4 != 0), .int .i64 v5, .int .i64 0, .int .i64 0, .int .i64 0, .int .i64 0, .int .i64 0] _ from RF3.out.set 4 (.int .i64 v5))
  have RF5 := hide (show Blk w.heap.size 23 #[.int .i64 v1, .int .i64 v2, .bool (v3 != 0), .bool (v4 != 0), .int .i64 v5, .int .i64 v6, .int .i64 0, .int .i64 0, .int .i64 0, .int .i64 0] _ from RF4.out.set 5 (.int .i64 v6))
  have RF6 := hide (show Blk w.heap.size 23 #[.int .i64 v1, .int .i64 v2, .bool (v3 != 0), .bool (v4 != 0), .int .i64 v5, .int .i64 v6, .int .i64 v7, .int .i64 0, .int .i64 0, .int .i64 0] _ from RF5.out.set 6 (.int .i64 v7))
  have RF7 := hide (show Blk w.heap.size 23 #[.int .i64 v1, .int .i64 v2, .bool (v3 != 0), .bool (v4 != 0), .int .i64 v5, .int .i64 v6, .int .i64 v7, .int .i64 v8, .int .i64 0, .int .i64 0] _ from RF6.out.set 7 (.int .i64 v8))
  have RF8 := hide (show Blk w.heap.size 23 #[.int .i64 v1, .int .i64 v2, .bool (v3 != 0), .bool (v4 != 0), .int .i64 v5, .int .i64 v6, .int .i64 v7, .int .i64 v8, .int .i64 v9, .int .i64 0] _ from RF7.out.set 8 (.int .i64 v9))
  have RF9 := hide (show Blk w.heap.size 23 #[.int .i64 v1, .int .i64 v2, .bool (v3 != 0), .bool (v4 != 0), .int .i64 v5, .int .i64 v6, .int .i64 v7, .int .i64 v8, .int .i64 v9, .int .i64 v10] _ from RF8.out.set 9 (.int .i64 v10))
  rw [hR.out]
  exact bodyPost_ret (results_at Try.results15 _ rfl RF9.out Try.underlying23 rfl (by kernel_rfl)) rfl ⟨rfl, ((((((((((B12.out.setCell (p := ⟨w.heap.size, 0, none⟩) (Nat.le_refl _) _).setCell (p := ⟨w.heap.size, 1, none⟩) (Nat.le_refl _) _).setCell (p := ⟨w.heap.size, 2, none⟩) (Nat.le_refl _) _).setCell (p := ⟨w.heap.size, 3, none⟩) (Nat.le_refl _) _).setCell (p := ⟨w.heap.size, 4, none⟩) (Nat.le_refl _) _).setCell (p := ⟨w.heap.size, 5, none⟩) (Nat.le_refl _) _).setCell (p := ⟨w.heap.size, 6, none⟩) (Nat.le_refl _) _).setCell (p := ⟨w.heap.size, 7, none⟩) (Nat.le_refl _) _).setCell (p := ⟨w.heap.size, 8, none⟩) (Nat.le_refl _) _).setCell (p := ⟨w.heap.size, 9, none⟩) (Nat.le_refl _) _)⟩

set_option maxHeartbeats 3200000 in
set_option maxRecDepth 100000 in
theorem parse_no (s : ByteArray) (w : World) (hs : s.size ≤ 1099511627776) (h16 : 16 ≤ s.size) (hval : validB (rawF s) = false) :
    Calls Try.prog 15 #[.string s] w fun e w' => e = .returned (.tuple #[.agg #[.int .i64 0, .int .i64 0, .bool false, .bool false, .int .i64 0, .int .i64 0, .int .i64 0, .int .i64 0, .int .i64 0, .int .i64 0], .int .i64 130]) ∧ Below w.heap.size w w' := by
  obtain ⟨c0, hc0⟩ : ∃ c : Cu, c = ⟨s, 0, 0⟩ := ⟨_, rfl⟩
  have K0 : Hid c0.ok := by rw [hc0]; exact ⟨Nat.zero_le _, hs⟩
  obtain ⟨c1, hc1⟩ : ∃ c : Cu, c = ⟨s, 1, 0⟩ := ⟨_, rfl⟩
  obtain ⟨v1, hv1⟩ : ∃ v, v = byteV s 0 := ⟨_, rfl⟩
  have st1 := Cu.step (s := s) (i := 0) (n := 1) (by omega)
  have E1 := hide (show c1 = c0.bytes 1 by rw [hc0, hc1]; exact st1.1.symm)
  have V1 := hide (show v1 = c0.int 1 by rw [hc0, hv1]; exact st1.2.2.symm)
  have K1 := ok_at E1 K0
  clear st1
  obtain ⟨c2, hc2⟩ : ∃ c : Cu, c = ⟨s, 2, 0⟩ := ⟨_, rfl⟩
  obtain ⟨v2, hv2⟩ : ∃ v, v = byteV s 1 := ⟨_, rfl⟩
  have st2 := Cu.step (s := s) (i := 1) (n := 1) (by omega)
  have E2 := hide (show c2 = c1.bytes 1 by rw [hc1, hc2]; exact st2.1.symm)
  have V2 := hide (show v2 = c1.int 1 by rw [hc1, hv2]; exact st2.2.2.symm)
  have K2 := ok_at E2 K1
  clear st2
  obtain ⟨c3, hc3⟩ : ∃ c : Cu, c = ⟨s, 3, 0⟩ := ⟨_, rfl⟩
  obtain ⟨v3, hv3⟩ : ∃ v, v = byteV s 2 := ⟨_, rfl⟩
  have st3 := Cu.step (s := s) (i := 2) (n := 1) (by omega)
  have E3 := hide (show c3 = c2.bytes 1 by rw [hc2, hc3]; exact st3.1.symm)
  have V3 := hide (show v3 = c2.int 1 by rw [hc2, hv3]; exact st3.2.2.symm)
  have K3 := ok_at E3 K2
  clear st3
  obtain ⟨c4, hc4⟩ : ∃ c : Cu, c = ⟨s, 4, 0⟩ := ⟨_, rfl⟩
  obtain ⟨v4, hv4⟩ : ∃ v, v = byteV s 3 := ⟨_, rfl⟩
  have st4 := Cu.step (s := s) (i := 3) (n := 1) (by omega)
  have E4 := hide (show c4 = c3.bytes 1 by rw [hc3, hc4]; exact st4.1.symm)
  have V4 := hide (show v4 = c3.int 1 by rw [hc3, hv4]; exact st4.2.2.symm)
  have K4 := ok_at E4 K3
  clear st4
  obtain ⟨c5, hc5⟩ : ∃ c : Cu, c = ⟨s, 6, 0⟩ := ⟨_, rfl⟩
  obtain ⟨v5, hv5⟩ : ∃ v, v = wordV s 4 := ⟨_, rfl⟩
  have st5 := Cu.step (s := s) (i := 4) (n := 2) (by omega)
  have E5 := hide (show c5 = c4.bytes 2 by rw [hc4, hc5]; exact st5.1.symm)
  have V5 := hide (show v5 = c4.int 2 by rw [hc4, hv5]; exact st5.2.2.symm)
  have K5 := ok_at E5 K4
  clear st5
  obtain ⟨c6, hc6⟩ : ∃ c : Cu, c = ⟨s, 8, 0⟩ := ⟨_, rfl⟩
  obtain ⟨v6, hv6⟩ : ∃ v, v = wordV s 6 := ⟨_, rfl⟩
  have st6 := Cu.step (s := s) (i := 6) (n := 2) (by omega)
  have E6 := hide (show c6 = c5.bytes 2 by rw [hc5, hc6]; exact st6.1.symm)
  have V6 := hide (show v6 = c5.int 2 by rw [hc5, hv6]; exact st6.2.2.symm)
  have K6 := ok_at E6 K5
  clear st6
  obtain ⟨c7, hc7⟩ : ∃ c : Cu, c = ⟨s, 10, 0⟩ := ⟨_, rfl⟩
  obtain ⟨v7, hv7⟩ : ∃ v, v = wordV s 8 := ⟨_, rfl⟩
  have st7 := Cu.step (s := s) (i := 8) (n := 2) (by omega)
  have E7 := hide (show c7 = c6.bytes 2 by rw [hc6, hc7]; exact st7.1.symm)
  have V7 := hide (show v7 = c6.int 2 by rw [hc6, hv7]; exact st7.2.2.symm)
  have K7 := ok_at E7 K6
  clear st7
  obtain ⟨c8, hc8⟩ : ∃ c : Cu, c = ⟨s, 11, 0⟩ := ⟨_, rfl⟩
  obtain ⟨v8, hv8⟩ : ∃ v, v = byteV s 10 := ⟨_, rfl⟩
  have st8 := Cu.step (s := s) (i := 10) (n := 1) (by omega)
  have E8 := hide (show c8 = c7.bytes 1 by rw [hc7, hc8]; exact st8.1.symm)
  have V8 := hide (show v8 = c7.int 1 by rw [hc7, hv8]; exact st8.2.2.symm)
  have K8 := ok_at E8 K7
  clear st8
  obtain ⟨c9, hc9⟩ : ∃ c : Cu, c = ⟨s, 12, 0⟩ := ⟨_, rfl⟩
  obtain ⟨v9, hv9⟩ : ∃ v, v = byteV s 11 := ⟨_, rfl⟩
  have st9 := Cu.step (s := s) (i := 11) (n := 1) (by omega)
  have E9 := hide (show c9 = c8.bytes 1 by rw [hc8, hc9]; exact st9.1.symm)
  have V9 := hide (show v9 = c8.int 1 by rw [hc8, hv9]; exact st9.2.2.symm)
  have K9 := ok_at E9 K8
  clear st9
  obtain ⟨c10, hc10⟩ : ∃ c : Cu, c = ⟨s, 13, 0⟩ := ⟨_, rfl⟩
  obtain ⟨v10, hv10⟩ : ∃ v, v = byteV s 12 := ⟨_, rfl⟩
  have st10 := Cu.step (s := s) (i := 12) (n := 1) (by omega)
  have E10 := hide (show c10 = c9.bytes 1 by rw [hc9, hc10]; exact st10.1.symm)
  have V10 := hide (show v10 = c9.int 1 by rw [hc9, hv10]; exact st10.2.2.symm)
  have K10 := ok_at E10 K9
  clear st10
  obtain ⟨c11, hc11⟩ : ∃ c : Cu, c = ⟨s, 16, 0⟩ := ⟨_, rfl⟩
  obtain ⟨v11, f11⟩ : ∃ v, v = c10.out 3 := ⟨_, rfl⟩
  have E11 := hide (show c11 = c10.bytes 3 by rw [hc10, hc11]; exact (Cu.step (s := s) (i := 13) (n := 3) (by omega)).1.symm)
  have V11 := hide f11; clear f11
  have hsh : Hid (c11.e = 0) := by rw [hc11]; exact rfl
  have hraw : rawF s = ⟨v1, v2, v3 != 0, v4 != 0, v5, v6, v7, v8, v9, v10⟩ := by rw [hv1, hv2, hv3, hv4, hv5, hv6, hv7, hv8, hv9, hv10]; rfl
  have HV : Hid (∀ w, Calls Try.prog 17 #[.agg #[.int .i64 v1, .int .i64 v2, .bool (v3 != 0), .bool (v4 != 0), .int .i64 v5, .int .i64 v6, .int .i64 v7, .int .i64 v8, .int .i64 v9, .int .i64 v10]] w fun e w' => e = .returned (.bool false) ∧ Below w.heap.size w w') := by
    intro w
    have := valid_any (rawF s) w (by rw [hraw, hv8]; exact byteV_le s 10) (by rw [hraw, hv9]; exact byteV_le s 11) (by rw [hraw, hv10]; exact byteV_le s 12)
    rw [hval, hraw] at this
    exact this
  have hR : Hid (rawF s = ⟨v1, v2, v3 != 0, v4 != 0, v5, v6, v7, v8, v9, v10⟩) := hraw
  clear hraw hval
  have C0 := hide hc0
  clear hc0 hc1 hc2 hc3 hc4 hc5 hc6 hc7 hc8 hc9 hc10 hc11 hv1 hv2 hv3 hv4 hv5 hv6 hv7 hv8 hv9 hv10
  go_enter Try.func15, Try.ntmps15
  go_wp2_with fail
  refine (new_any s _).mono ?_
  rintro e w0 ⟨rfl, hc, hb0, hz0⟩
  rw [← C0.out] at hc
  have R0 : Blk w.heap.size 23 zeroC w0 := (Blk.new w 23 zeroC).below hb0
  have B0 : Below w.heap.size w w0 := ((Below.refl _ _).alloc (Nat.le_refl _) _).trans (hb0.mono (by simp))
  simp only [World.size_alloc] at hz0
  simp only [World.size_alloc] at hc
  have nR : w.heap.size ≠ w.heap.size + 1 := by omega
  have I0 := hide hc; clear hc
  -- two bytes
  go_wp2_with fail
  refine (int_at _ c0 c1 1 v1 (by simp) _ I0.out K0 E1 V1).mono ?_
  rintro e w1 ⟨rfl, hc1, ho1⟩
  have R1 := hide (R0.only ho1 nR)
  have B1 := hide (Below.grown B0 ho1 B0.size (by intro k hk; cases hk; omega))
  have I1 := hide hc1; clear hc1 ho1
  go_wp2_with fail
  refine (int_at _ c1 c2 1 v2 (by simp) _ I1.out K1 E2 V2).mono ?_
  rintro e w2 ⟨rfl, hc2, ho2⟩
  have R2 := hide (R1.out.only ho2 nR)
  have B2 := hide (Below.grown B1.out ho2 B1.out.size (by intro k hk; cases hk; omega))
  have I2 := hide hc2; clear hc2 ho2
  have HZ : w.heap.size + 1 < w2.heap.size := I2.out.lt
  have nF1 : w.heap.size + 1 ≠ w2.heap.size := by omega
  have nF : w2.heap.size ≠ w.heap.size + 1 := by omega
  have nRF : w.heap.size ≠ w2.heap.size := by omega
  have hRF : w.heap.size ≤ w2.heap.size := by omega
  have F2 := hide (Blk.new w2 23 #[.int .i64 v1, .int .i64 v2, .bool false, .bool false, .int .i64 0, .int .i64 0, .int .i64 0, .int .i64 0, .int .i64 0, .int .i64 0])
  go_wp2_with fail
  refine (int_at _ c2 c3 1 v3 (by simp) _ (I2.out.alloc _) K2 E3 V3).mono ?_
  rintro e w3 ⟨rfl, hc3, ho3⟩
  have R3 := hide ((R2.out.alloc _).only ho3 nR)
  have B3 := hide (Below.grown (B2.out.alloc B2.out.size _) ho3 (B2.out.alloc B2.out.size _).size (by intro k hk; cases hk; omega))
  have F3 := hide (F2.out.only ho3 nF)
  have I3 := hide hc3; clear hc3 ho3
  go_wp2_with fail
  refine (int_at _ c3 c4 1 v4 (by simp) _ I3.out K3 E4 V4).mono ?_
  rintro e w4 ⟨rfl, hc4, ho4⟩
  have R4 := hide (R3.out.only ho4 nR)
  have B4 := hide (Below.grown B3.out ho4 B3.out.size (by intro k hk; cases hk; omega))
  have F4 := hide (F3.out.only ho4 nF)
  have I4 := hide hc4; clear hc4 ho4
  have f2 : w4.cell? ⟨w2.heap.size, 2, none⟩ = some (.bool false) := F4.out.cell 2
  have r2 := F4.out.fr 2
  have f3 : w4.cell? ⟨w2.heap.size, 3, none⟩ = some (.bool false) := F4.out.cell 3
  have r3 := F4.out.fr 3
  have F4s := hide (show Blk w2.heap.size 23 #[.int .i64 v1, .int .i64 v2, .bool (v3 != 0), .bool (v4 != 0), .int .i64 0, .int .i64 0, .int .i64 0, .int .i64 0, .int .i64 0, .int .i64 0] ((w4.setCell ⟨w2.heap.size, 2, none⟩ (.bool (v3 != 0))).setCell ⟨w2.heap.size, 3, none⟩ (.bool (v4 != 0))) from ((F4.out.set 2 (.bool (v3 != 0))).set 3 (.bool (v4 != 0))))
  go_wp2_with fail
  refine (int_at _ c4 c5 2 v5 (by simp) _ ((I4.out.other nF1 _).other nF1 _) K4 E5 V5).mono ?_
  rintro e w5 ⟨rfl, hc5, ho5⟩
  have R5 := hide (((R4.out.other nRF _).other nRF _).only ho5 nR)
  have B5 := hide (Below.grown ((B4.out.setCell hRF _).setCell hRF _) ho5 ((B4.out.setCell hRF _).setCell hRF _).size (by intro k hk; cases hk; omega))
  have F5 := hide (F4s.out.only ho5 nF)
  have I5 := hide hc5; clear hc5 ho5
  go_wp2_with fail
  refine (int_at _ c5 c6 2 v6 (by simp) _ I5.out K5 E6 V6).mono ?_
  rintro e w6 ⟨rfl, hc6, ho6⟩
  have R6 := hide (R5.out.only ho6 nR)
  have B6 := hide (Below.grown B5.out ho6 B5.out.size (by intro k hk; cases hk; omega))
  have F6 := hide (F5.out.only ho6 nF)
  have I6 := hide hc6; clear hc6 ho6
  go_wp2_with fail
  refine (int_at _ c6 c7 2 v7 (by simp) _ I6.out K6 E7 V7).mono ?_
  rintro e w7 ⟨rfl, hc7, ho7⟩
  have R7 := hide (R6.out.only ho7 nR)
  have B7 := hide (Below.grown B6.out ho7 B6.out.size (by intro k hk; cases hk; omega))
  have F7 := hide (F6.out.only ho7 nF)
  have I7 := hide hc7; clear hc7 ho7
  have f4 : w7.cell? ⟨w2.heap.size, 4, none⟩ = some (.int .i64 0) := F7.out.cell 4
  have r4 := F7.out.fr 4
  have f5 : w7.cell? ⟨w2.heap.size, 5, none⟩ = some (.int .i64 0) := F7.out.cell 5
  have r5 := F7.out.fr 5
  have f6 : w7.cell? ⟨w2.heap.size, 6, none⟩ = some (.int .i64 0) := F7.out.cell 6
  have r6 := F7.out.fr 6
  have F7s := hide (show Blk w2.heap.size 23 #[.int .i64 v1, .int .i64 v2, .bool (v3 != 0), .bool (v4 != 0), .int .i64 v5, .int .i64 v6, .int .i64 v7, .int .i64 0, .int .i64 0, .int .i64 0] (((w7.setCell ⟨w2.heap.size, 4, none⟩ (.int .i64 v5)).setCell ⟨w2.heap.size, 5, none⟩ (.int .i64 v6)).setCell ⟨w2.heap.size, 6, none⟩ (.int .i64 v7)) from (((F7.out.set 4 (.int .i64 v5)).set 5 (.int .i64 v6)).set 6 (.int .i64 v7)))
  go_wp2_with fail
  refine (int_at _ c7 c8 1 v8 (by simp) _ (((I7.out.other nF1 _).other nF1 _).other nF1 _) K7 E8 V8).mono ?_
  rintro e w8 ⟨rfl, hc8, ho8⟩
  have R8 := hide ((((R7.out.other nRF _).other nRF _).other nRF _).only ho8 nR)
  have B8 := hide (Below.grown (((B7.out.setCell hRF _).setCell hRF _).setCell hRF _) ho8 (((B7.out.setCell hRF _).setCell hRF _).setCell hRF _).size (by intro k hk; cases hk; omega))
  have F8 := hide (F7s.out.only ho8 nF)
  have I8 := hide hc8; clear hc8 ho8
  go_wp2_with fail
  refine (int_at _ c8 c9 1 v9 (by simp) _ I8.out K8 E9 V9).mono ?_
  rintro e w9 ⟨rfl, hc9, ho9⟩
  have R9 := hide (R8.out.only ho9 nR)
  have B9 := hide (Below.grown B8.out ho9 B8.out.size (by intro k hk; cases hk; omega))
  have F9 := hide (F8.out.only ho9 nF)
  have I9 := hide hc9; clear hc9 ho9
  go_wp2_with fail
  refine (int_at _ c9 c10 1 v10 (by simp) _ I9.out K9 E10 V10).mono ?_
  rintro e w10 ⟨rfl, hc10, ho10⟩
  have R10 := hide (R9.out.only ho10 nR)
  have B10 := hide (Below.grown B9.out ho10 B9.out.size (by intro k hk; cases hk; omega))
  have F10 := hide (F9.out.only ho10 nF)
  have I10 := hide hc10; clear hc10 ho10
  have f7 : w10.cell? ⟨w2.heap.size, 7, none⟩ = some (.int .i64 0) := F10.out.cell 7
  have r7 := F10.out.fr 7
  have f8 : w10.cell? ⟨w2.heap.size, 8, none⟩ = some (.int .i64 0) := F10.out.cell 8
  have r8 := F10.out.fr 8
  have f9 : w10.cell? ⟨w2.heap.size, 9, none⟩ = some (.int .i64 0) := F10.out.cell 9
  have r9 := F10.out.fr 9
  have F10s := hide (show Blk w2.heap.size 23 #[.int .i64 v1, .int .i64 v2, .bool (v3 != 0), .bool (v4 != 0), .int .i64 v5, .int .i64 v6, .int .i64 v7, .int .i64 v8, .int .i64 v9, .int .i64 v10] (((w10.setCell ⟨w2.heap.size, 7, none⟩ (.int .i64 v8)).setCell ⟨w2.heap.size, 8, none⟩ (.int .i64 v9)).setCell ⟨w2.heap.size, 9, none⟩ (.int .i64 v10)) from (((F10.out.set 7 (.int .i64 v8)).set 8 (.int .i64 v9)).set 9 (.int .i64 v10)))
  go_wp2_with fail
  refine (bytes_at _ c10 c11 3 v11 _ (by decide) (((I10.out.other nF1 _).other nF1 _).other nF1 _) K10 E11 V11).mono ?_
  rintro e w11 ⟨rfl, hc11, ho11⟩
  have R11 := hide ((((R10.out.other nRF _).other nRF _).other nRF _).only ho11 nR)
  have B11 := hide (Below.grown (((B10.out.setCell hRF _).setCell hRF _).setCell hRF _) ho11 (((B10.out.setCell hRF _).setCell hRF _).setCell hRF _).size (by intro k hk; cases hk; omega))
  have F11 := hide (F10s.out.only ho11 nF)
  have I11 := hide hc11; clear hc11 ho11
  have hE : Calls Try.prog 75 #[.pointer (some ⟨w.heap.size + 1, 0, none⟩)] w11 fun en w' => en = .returned (.int .i64 0) ∧ w11 = w' := by
    have := err_any _ c11 _ I11.out
    rw [hsh.out] at this
    exact this
  have HE := hide hE; clear hE
  go_wp2_with fail
  refine HE.out.mono ?_
  rintro e w12 ⟨rfl, rfl⟩
  have t0 : w11.cell? ⟨w2.heap.size, 0, none⟩ = some (.int .i64 v1) := F11.out.cell 0
  have t1 : w11.cell? ⟨w2.heap.size, 1, none⟩ = some (.int .i64 v2) := F11.out.cell 1
  have t2 : w11.cell? ⟨w2.heap.size, 2, none⟩ = some (.bool (v3 != 0)) := F11.out.cell 2
  have t3 : w11.cell? ⟨w2.heap.size, 3, none⟩ = some (.bool (v4 != 0)) := F11.out.cell 3
  have t4 : w11.cell? ⟨w2.heap.size, 4, none⟩ = some (.int .i64 v5) := F11.out.cell 4
  have t5 : w11.cell? ⟨w2.heap.size, 5, none⟩ = some (.int .i64 v6) := F11.out.cell 5
  have t6 : w11.cell? ⟨w2.heap.size, 6, none⟩ = some (.int .i64 v7) := F11.out.cell 6
  have t7 : w11.cell? ⟨w2.heap.size, 7, none⟩ = some (.int .i64 v8) := F11.out.cell 7
  have t8 : w11.cell? ⟨w2.heap.size, 8, none⟩ = some (.int .i64 v9) := F11.out.cell 8
  have t9 : w11.cell? ⟨w2.heap.size, 9, none⟩ = some (.int .i64 v10) := F11.out.cell 9
  go_wp2_with fail
  refine (HV.out _).mono ?_
  rintro e w12 ⟨rfl, hb12⟩
  have R12 := hide (R11.out.below hb12)
  have F12 := hide (F11.out.below hb12)
  have B12 := hide (B11.out.trans (hb12.mono B11.out.size))
  clear t0 t1 t2 t3 t4 t5 t6 t7 t8 t9
  have g0 : w12.cell? ⟨w.heap.size, 0, none⟩ = some (.int .i64 0) := R12.out.cell 0
  have q0 : w12.frozen? ⟨w.heap.size, 0, none⟩ = false := R12.out.fr 0
  have g1 : w12.cell? ⟨w.heap.size, 1, none⟩ = some (.int .i64 0) := R12.out.cell 1
  have q1 : w12.frozen? ⟨w.heap.size, 1, none⟩ = false := R12.out.fr 1
  have g2 : w12.cell? ⟨w.heap.size, 2, none⟩ = some (.bool false) := R12.out.cell 2
  have q2 : w12.frozen? ⟨w.heap.size, 2, none⟩ = false := R12.out.fr 2
  have g3 : w12.cell? ⟨w.heap.size, 3, none⟩ = some (.bool false) := R12.out.cell 3
  have q3 : w12.frozen? ⟨w.heap.size, 3, none⟩ = false := R12.out.fr 3
  have g4 : w12.cell? ⟨w.heap.size, 4, none⟩ = some (.int .i64 0) := R12.out.cell 4
  have q4 : w12.frozen? ⟨w.heap.size, 4, none⟩ = false := R12.out.fr 4
  have g5 : w12.cell? ⟨w.heap.size, 5, none⟩ = some (.int .i64 0) := R12.out.cell 5
  have q5 : w12.frozen? ⟨w.heap.size, 5, none⟩ = false := R12.out.fr 5
  have g6 : w12.cell? ⟨w.heap.size, 6, none⟩ = some (.int .i64 0) := R12.out.cell 6
  have q6 : w12.frozen? ⟨w.heap.size, 6, none⟩ = false := R12.out.fr 6
  have g7 : w12.cell? ⟨w.heap.size, 7, none⟩ = some (.int .i64 0) := R12.out.cell 7
  have q7 : w12.frozen? ⟨w.heap.size, 7, none⟩ = false := R12.out.fr 7
  have g8 : w12.cell? ⟨w.heap.size, 8, none⟩ = some (.int .i64 0) := R12.out.cell 8
  have q8 : w12.frozen? ⟨w.heap.size, 8, none⟩ = false := R12.out.fr 8
  have g9 : w12.cell? ⟨w.heap.size, 9, none⟩ = some (.int .i64 0) := R12.out.cell 9
  have q9 : w12.frozen? ⟨w.heap.size, 9, none⟩ = false := R12.out.fr 9
  go_wp2_with fail
  have RF0 := hide (show Blk w.heap.size 23 #[.int .i64 0, .int .i64 0, .bool false, .bool false, .int .i64 0, .int .i64 0, .int .i64 0, .int .i64 0, .int .i64 0, .int .i64 0] _ from R12.out.set 0 (.int .i64 0))
  have RF1 := hide (show Blk w.heap.size 23 #[.int .i64 0, .int .i64 0, .bool false, .bool false, .int .i64 0, .int .i64 0, .int .i64 0, .int .i64 0, .int .i64 0, .int .i64 0] _ from RF0.out.set 1 (.int .i64 0))
  have RF2 := hide (show Blk w.heap.size 23 #[.int .i64 0, .int .i64 0, .bool false, .bool false, .int .i64 0, .int .i64 0, .int .i64 0, .int .i64 0, .int .i64 0, .int .i64 0] _ from RF1.out.set 2 (.bool false))
  have RF3 := hide (show Blk w.heap.size 23 #[.int .i64 0, .int .i64 0, .bool false, .bool false, .int .i64 0, .int .i64 0, .int .i64 0, .int .i64 0, .int .i64 0, .int .i64 0] _ from RF2.out.set 3 (.bool false))
  have RF4 := hide (show Blk w.heap.size 23 #[.int .i64 0, .int .i64 0, .bool false, .bool false, .int .i64 0, .int .i64 0, .int .i64 0, .int .i64 0, .int .i64 0, .int .i64 0] _ from RF3.out.set 4 (.int .i64 0))
  have RF5 := hide (show Blk w.heap.size 23 #[.int .i64 0, .int .i64 0, .bool false, .bool false, .int .i64 0, .int .i64 0, .int .i64 0, .int .i64 0, .int .i64 0, .int .i64 0] _ from RF4.out.set 5 (.int .i64 0))
  have RF6 := hide (show Blk w.heap.size 23 #[.int .i64 0, .int .i64 0, .bool false, .bool false, .int .i64 0, .int .i64 0, .int .i64 0, .int .i64 0, .int .i64 0, .int .i64 0] _ from RF5.out.set 6 (.int .i64 0))
  have RF7 := hide (show Blk w.heap.size 23 #[.int .i64 0, .int .i64 0, .bool false, .bool false, .int .i64 0, .int .i64 0, .int .i64 0, .int .i64 0, .int .i64 0, .int .i64 0] _ from RF6.out.set 7 (.int .i64 0))
  have RF8 := hide (show Blk w.heap.size 23 #[.int .i64 0, .int .i64 0, .bool false, .bool false, .int .i64 0, .int .i64 0, .int .i64 0, .int .i64 0, .int .i64 0, .int .i64 0] _ from RF7.out.set 8 (.int .i64 0))
  have RF9 := hide (show Blk w.heap.size 23 #[.int .i64 0, .int .i64 0, .bool false, .bool false, .int .i64 0, .int .i64 0, .int .i64 0, .int .i64 0, .int .i64 0, .int .i64 0] _ from RF8.out.set 9 (.int .i64 0))
  exact bodyPost_ret (results_at Try.results15 _ rfl RF9.out Try.underlying23 rfl (by kernel_rfl)) rfl ⟨rfl, ((((((((((B12.out.setCell (p := ⟨w.heap.size, 0, none⟩) (Nat.le_refl _) _).setCell (p := ⟨w.heap.size, 1, none⟩) (Nat.le_refl _) _).setCell (p := ⟨w.heap.size, 2, none⟩) (Nat.le_refl _) _).setCell (p := ⟨w.heap.size, 3, none⟩) (Nat.le_refl _) _).setCell (p := ⟨w.heap.size, 4, none⟩) (Nat.le_refl _) _).setCell (p := ⟨w.heap.size, 5, none⟩) (Nat.le_refl _) _).setCell (p := ⟨w.heap.size, 6, none⟩) (Nat.le_refl _) _).setCell (p := ⟨w.heap.size, 7, none⟩) (Nat.le_refl _) _).setCell (p := ⟨w.heap.size, 8, none⟩) (Nat.le_refl _) _).setCell (p := ⟨w.heap.size, 9, none⟩) (Nat.le_refl _) _)⟩

/-- format.Parse. -/
theorem parse_any (s : ByteArray) (w : World) (hs : s.size ≤ 1099511627776) :
    Calls Try.prog 15 #[.string s] w fun e w' => e = .returned (.tuple #[fmtV (parseF s), .int .i64 (parseE s)]) ∧ Below w.heap.size w w' := by
  by_cases h : s.size < 16
  · have e1 : parseE s = 2 := by unfold parseE; rw [if_pos h]
    have e2 : parseF s = zeroF := by unfold parseF; rw [e1]; rfl
    rw [e1, e2]
    exact parse_short s w hs h
  · cases hv : validB (rawF s) with
    | true =>
      have e1 : parseE s = 0 := by unfold parseE; rw [if_neg h, hv]; rfl
      have e2 : parseF s = rawF s := by unfold parseF; rw [e1]; rfl
      rw [e1, e2]
      exact parse_yes s w hs (by omega) hv
    | false =>
      have e1 : parseE s = 130 := by unfold parseE; rw [if_neg h, hv]; rfl
      have e2 : parseF s = zeroF := by unfold parseF; rw [e1]; rfl
      rw [e1, e2]
      exact parse_no s w hs (by omega) hv

end Go.Proofs.Ytodlpofpeoiedaa

/-
  Regions that draw their order: reads and quiet calls taken first, what writes or makes memory in one forced order.
  (The lemmas on what waits for what are lines of the kit's printed words, its section on regions; the quiet call is new.)
-/
namespace Go.Proofs.Ytodlpofpeoiedaa

section
variable {P : Program} {ops : Array Oper} {Q : Exit → Act → World → Prop} {md : Region.Mode} {S : World → Prop} {ds : List Nat}

/-- In every world that meets S the operation yields v, and leaves the world as it is; a quiet call too. -/
def Tame (P : Program) (ops : Array Oper) (S : World → Prop) (o : Oper) (v : Value) (a : Act) : Prop := ∀ w, S w → YieldsAt P ops w o v a

theorem Tame.wpOp {i : Nat} {o : Oper} {v : Value} {a : Act} (hi : ops[i]? = some o) (hy : Tame P ops S o v a) {K : Act → World → Prop} {w : World} (hS : S w) (h : K (a.put o.dst v) w) : Go.wpOp P ops Q i K a w :=
  wpOp_of_stOp (K := fun a' => K a' w) (fun _ h => h) ((hy w hS).stOp hi h)

theorem Tame.of_same {o : Oper} {v : Value} {a a' : Act} (hy : Tame P ops S o v a) (he : execOp a'.eval o = execOp a.eval o)
    (hw : Region.wanted o (yielded ops a'.tmps) = Region.wanted o (yielded ops a.tmps)) : Tame P ops S o v a' := fun w hS => (hy w hS).of_same he hw

theorem wpOp_putT {j : Nat} {oi oj : Oper} {v : Value} (hj : ops[j]? = some oj) (hap : oi.apart ops oj = true)
    (hsi : ∀ cs b, oi.op ≠ .select cs b) (hsj : ∀ cs b, oj.op ≠ .select cs b)
    (hQ : ∀ c a w, Q (.panic c) (a.put oi.dst v) w → Q (.panic c) a w) {K : Act → World → Prop} {a : Act} {w : World}
    (hy : Tame P ops S oi v a) (h : wpOp P ops Q j K (a.put oi.dst v) w) :
    wpOp P ops Q j (fun a' w' => Tame P ops S oi v a' ∧ K (a'.put oi.dst v) w') a w := by
  obtain ⟨h1, h2, h3⟩ := Oper.apart_spec hap
  have keep : ∀ (a : Act), Tame P ops S oi v a → ∀ u, Tame P ops S oi v (a.put oj.dst u) := fun a hy u =>
    hy.of_same (execOp_put oi hsi a oj.dst u h3) (wanted_put oi a oj.dst u h3)
  have keepD : ∀ d, Tame P ops S oi v { a with defers := d :: a.defers } := fun d => hy.of_same rfl rfl
  unfold wpOp at *
  simp only [hj] at *
  rw [wanted_put oj a oi.dst v h1] at h
  split
  · rename_i hw
    simp only [hw, if_true] at h
    rcases h with h | ⟨hasks, hlets⟩
    case inr => exact .inr ⟨by unfold Oper.asks at *; rw [execOp_put oj hsj a oi.dst v h1] at hasks; exact hasks, hlets⟩
    refine .inl ?_
    unfold Oper.wp at *
    rw [execOp_put oj hsj a oi.dst v h1] at h
    generalize (execOp a.eval oj).run P w = r at *
    cases r with
    | ok n w' =>
      cases n <;> simp only [Oper.upon] at h ⊢
      case value u => exact ⟨keep a hy u, by rw [← Act.put_comm a v u h2]; exact h⟩
      case skip => exact ⟨keep a hy _, by rw [← Act.put_comm a v undef h2]; exact h⟩
      case defer d =>
        refine ⟨keep _ (keepD d) _, ?_⟩
        rw [← Act.put_comm _ v undef h2, ← Act.put_defers]
        exact h
      case enter f args =>
        refine Calls.mono h fun e w'' he => ?_
        cases e with
        | returned u => exact ⟨keep a hy u, by rw [← Act.put_comm a v u h2]; exact he⟩
        | panicked c => exact hQ _ _ _ he
        | outgrown => exact he
      case row row args => exact Rows.mono h fun u w'' he => ⟨keep a hy u, by rw [← Act.put_comm a v u h2]; exact he⟩
    | halt x w' =>
      cases x <;> simp only [Oper.upon] at h ⊢
      case panic u => exact hQ _ _ _ h
  · rename_i hw
    simp only [hw] at h
    exact ⟨keep a hy _, by rw [← Act.put_comm a v undef h2]; exact h⟩

/-- Operation d waits for operation i, by a chain of at most 'fuel' edges. -/
def Region.reachB (md : Region.Mode) (ops : Array Oper) (i : Nat) : Nat → Nat → Bool
  | 0, _ => false
  | fuel + 1, d => match ops[d]? with
    | some o => o.after.any fun e => Region.binds md e && (e.on == i || Region.reachB md ops i fuel e.on)
    | none => false

/-- What is listed is closed under the edges. -/
def Region.closedB (md : Region.Mode) (ops : Array Oper) (listed : Array Bool) : Bool :=
  (List.range ops.size).all fun j => !listed.getD j false || match ops[j]? with
    | some o => o.after.all fun e => !Region.binds md e || listed.getD e.on false
    | none => true

/-- Each of ds that has not come up yet waits for number i. -/
def Region.lastB (md : Region.Mode) (ops : Array Oper) (listed : Array Bool) (ds : List Nat) (i : Nat) : Bool :=
  ds.all fun d => listed.getD d true || Region.reachB md ops i ops.size d

def ListedClosed (md : Region.Mode) (ops : Array Oper) (listed : Array Bool) : Prop :=
  ∀ j oj, ops[j]? = some oj → listed.getD j false = true → ∀ e ∈ oj.after, Region.binds md e = true → listed.getD e.on false = true

theorem Region.closedB_spec {listed : Array Bool} (h : Region.closedB md ops listed = true) : ListedClosed md ops listed := by
  intro j oj hj hl e he hb
  have hlt : j < ops.size := (Array.getElem?_eq_some_iff.1 hj).1
  have h1 := List.all_eq_true.1 h j (List.mem_range.2 hlt)
  simp only [hl, hj, Bool.not_true, Bool.false_or] at h1
  have h2 := Array.all_eq_true_iff_forall_mem.1 h1 e he
  simpa [hb] using h2

theorem ListedClosed.set {listed : Array Bool} {i : Nat} (h : ListedClosed md ops listed) (hi : i ∈ Region.ready md ops listed) : ListedClosed md ops (listed.setIfInBounds i true) := by
  obtain ⟨_, oi, hoi, hall⟩ := mem_ready.1 hi
  intro j oj hj hl e he hb
  by_cases hij : i = j
  · subst hij
    have : oj = oi := Option.some.inj (hj.symm.trans hoi)
    subst this
    exact getD_set_true (hall e he hb)
  · rw [getD_set_ne false hij] at hl
    exact getD_set_true (h j oj hj hl e he hb)

theorem Region.reach_listed {listed : Array Bool} {i : Nat} (hc : ListedClosed md ops listed) : ∀ (fuel d : Nat), Region.reachB md ops i fuel d = true → listed.getD d false = true → listed.getD i false = true
  | 0, _, h, _ => by simp [Region.reachB] at h
  | fuel + 1, d, h, hl => by
    unfold Region.reachB at h
    cases ho : ops[d]? with
    | none => rw [ho] at h; simp at h
    | some o =>
      rw [ho] at h
      obtain ⟨e, he, h1⟩ := Array.any_eq_true'.1 h
      simp only [Bool.and_eq_true, Bool.or_eq_true, beq_iff_eq] at h1
      have hle := hc d o ho hl e he h1.1
      rcases h1.2 with h2 | h2
      · rw [← h2]; exact hle
      · exact Region.reach_listed hc fuel e.on h2 hle

/-- What waits for i cannot come up before i is listed. -/
theorem Region.reach_not_ready {listed : Array Bool} {i d fuel : Nat} (hc : ListedClosed md ops listed) (hr : Region.reachB md ops i fuel d = true) (hun : listed.getD i true = false) : d ∉ Region.ready md ops listed := by
  intro hd
  obtain ⟨_, o, ho, hall⟩ := mem_ready.1 hd
  have hi : listed.getD i false = true := by
    cases fuel with
    | zero => simp [Region.reachB] at hr
    | succ n =>
      unfold Region.reachB at hr
      rw [ho] at hr
      obtain ⟨e, he, h1⟩ := Array.any_eq_true'.1 hr
      simp only [Bool.and_eq_true, Bool.or_eq_true, beq_iff_eq] at h1
      have hle := hall e he h1.1
      rcases h1.2 with h2 | h2
      · rw [← h2]; exact hle
      · exact Region.reach_listed hc n e.on h2 hle
  rcases Nat.lt_or_ge i listed.size with h' | h'
  · simp [h'] at hun hi
    rw [hun] at hi
    cases hi
  · simp [Array.getElem?_eq_none h'] at hun

/-- Whatever order is picked from here on, AND 'S' HOLDS BEHIND EVERY OPERATION THAT IS CARRIED OUT, those of ds apart. -/
def wpAnyT (P : Program) (md : Region.Mode) (ops : Array Oper) (Q : Exit → Act → World → Prop) (S : World → Prop) (ds : List Nat) : Nat → Array Bool → Act → World → Prop
  | 0, listed, a, w => Region.ready md ops listed = [] ∧ Q .normal a w
  | fuel + 1, listed, a, w =>
    (Region.ready md ops listed = [] → Q .normal a w) ∧
    ∀ i ∈ Region.ready md ops listed, wpOp P ops Q i (fun a' w' => (i ∉ ds → S w → S w') ∧ wpAnyT P md ops Q S ds fuel (listed.setIfInBounds i true) a' w') a w

theorem wpAny_of_T : ∀ (fuel : Nat) (listed : Array Bool) (a : Act) (w : World), wpAnyT P md ops Q S ds fuel listed a w → wpAny P md ops Q fuel listed a w
  | 0, _, _, _, h => h
  | fuel + 1, _, _, _, h => ⟨h.1, fun i hi => wpOp_mono (fun a' w' h' => wpAny_of_T fuel _ a' w' h'.2) (h.2 i hi)⟩

theorem wpAnyT_first {i : Nat} {oi : Oper} {v : Value} (hi : ops[i]? = some oi) (hsel : ∀ (j : Nat) (o : Oper) cs b, ops[j]? = some o → o.op ≠ .select cs b)
    (hQ : ∀ c a w, Q (.panic c) (a.put oi.dst v) w → Q (.panic c) a w) (n : Nat) :
    ∀ (fuel : Nat) (listed : Array Bool) (a : Act) (w : World),
      (∀ j oj, ops[j]? = some oj → j ≠ i → listed.getD j true = false → (∀ e ∈ oj.after, Region.binds md e = true → e.on ≠ i) → oi.apart ops oj = true) →
      ListedClosed md ops listed → (∀ d ∈ ds, listed.getD d true = false → Region.reachB md ops i n d = true) →
      i ∈ Region.ready md ops listed → Tame P ops S oi v a → S w →
      wpAnyT P md ops Q S ds fuel (listed.setIfInBounds i true) (a.put oi.dst v) w → wpAnyT P md ops Q S ds (fuel + 1) listed a w := by
  intro fuel
  induction fuel with
  | zero =>
    intro listed a w _ _ _ hr hy hS H
    refine ⟨fun h => (by rw [h] at hr; cases hr), fun j hj => ?_⟩
    by_cases hji : j = i
    · subst hji; exact Tame.wpOp hi hy hS ⟨fun _ h => h, H⟩
    · have := ready_mono hj hji
      rw [H.1] at this
      cases this
  | succ fuel ih =>
    intro listed a w hfree hc hd hr hy hS H
    refine ⟨fun h => (by rw [h] at hr; cases hr), fun j hj => ?_⟩
    by_cases hji : j = i
    · subst hji; exact Tame.wpOp hi hy hS ⟨fun _ h => h, H⟩
    · have h1 := H.2 j (ready_mono hj hji)
      obtain ⟨hjun, oj, hoj, hall⟩ := mem_ready.1 hj
      have hiun := (mem_ready.1 hr).1
      have hnot : ∀ e ∈ oj.after, Region.binds md e = true → e.on ≠ i := fun e he hb heq => by
        have h1 := hall e he hb
        rw [heq] at h1
        rcases Nat.lt_or_ge i listed.size with h' | h'
        · simp [h'] at hiun h1; rw [hiun] at h1; cases h1
        · simp [Array.getElem?_eq_none h'] at h1
      have hjd : j ∉ ds := fun hm => Region.reach_not_ready hc (hd j hm hjun) hiun hj
      have h2 := wpOp_putT hoj (hfree j oj hoj hji hjun hnot) (fun cs b => hsel i oi cs b hi) (fun cs b => hsel j oj cs b hoj) hQ hy h1
      have hfree' : ∀ k ok, ops[k]? = some ok → k ≠ i → (listed.setIfInBounds j true).getD k true = false →
          (∀ e ∈ ok.after, Region.binds md e = true → e.on ≠ i) → oi.apart ops ok = true := fun k ok hk hki hun hno => by
        refine hfree k ok hk hki ?_ hno
        by_cases hjk : j = k
        · subst hjk; exact hjun
        · rw [getD_set_ne true hjk] at hun; exact hun
      have hd' : ∀ d ∈ ds, (listed.setIfInBounds j true).getD d true = false → Region.reachB md ops i n d = true := fun d hm hun => by
        refine hd d hm ?_
        by_cases hjk : j = d
        · subst hjk; exact hjun
        · rw [getD_set_ne true hjk] at hun; exact hun
      refine wpOp_mono (fun a' w' h3 => ⟨h3.2.1, ih (listed.setIfInBounds j true) a' w' hfree' (hc.set hj) hd' (ready_mono hr (Ne.symm hji)) h3.1 (h3.2.1 hjd hS) ?_⟩) h2
      rw [Array.setIfInBounds_comm _ _ hji]
      exact h3.2.2


/-- The order in which the walk goes, checked: a 'true' is quiet. -/
def planB (md : Region.Mode) (ops : Array Oper) (ds : List Nat) : List (Nat × Bool) → Array Bool → Bool
  | [], l => (Region.ready md ops l).isEmpty
  | (i, true) :: r, l => (Region.ready md ops l).contains i && Region.free md ops l i && Region.closedB md ops l && Region.lastB md ops l ds i && planB md ops ds r (l.setIfInBounds i true)
  | (i, false) :: r, l => Region.ready md ops l == [i] && planB md ops ds r (l.setIfInBounds i true)

def wpPlan (P : Program) (ops : Array Oper) (Q : Exit → Act → World → Prop) (S : World → Prop) (ds : List Nat) : List (Nat × Bool) → Act → World → Prop
  | [], a, w => Q .normal a w
  | (i, true) :: r, a, w => ∃ o v, ops[i]? = some o ∧ S w ∧ Tame P ops S o v a ∧ wpPlan P ops Q S ds r (a.put o.dst v) w
  | (i, false) :: r, a, w => wpOp P ops Q i (fun a' w' => (i ∉ ds → S w') ∧ wpPlan P ops Q S ds r a' w') a w

theorem wpPlan_spec (hs : Region.noSelect ops = true) (hQ : ∀ c a d v w, Q (.panic c) (Act.put a d v) w → Q (.panic c) a w) :
    ∀ (r : List (Nat × Bool)) (l : Array Bool) (a : Act) (w : World), planB md ops ds r l = true → wpPlan P ops Q S ds r a w → wpAnyT P md ops Q S ds r.length l a w
  | [], l, a, w, hB, h => ⟨by simpa [planB] using hB, h⟩
  | (i, true) :: r, l, a, w, hB, h => by
    simp only [planB, Bool.and_eq_true] at hB
    obtain ⟨⟨⟨⟨h1, h2⟩, h3⟩, h4⟩, h5⟩ := hB
    obtain ⟨o, v, ho, hS, hy, hh⟩ := h
    exact wpAnyT_first ho (Region.noSelect_spec hs) (fun c a w => hQ c a _ _ w) ops.size r.length l a w (Region.free_spec ho h2) (Region.closedB_spec h3)
      (fun d hm hun => by have := List.all_eq_true.1 h4 d hm; rw [hun] at this; simpa using this) (by simpa using h1) hy hS (wpPlan_spec hs hQ r _ _ _ h5 hh)
  | (i, false) :: r, l, a, w, hB, h => by
    simp only [planB, Bool.and_eq_true, beq_iff_eq] at hB
    refine ⟨fun h0 => (by rw [hB.1] at h0; cases h0), fun j hj => ?_⟩
    rw [hB.1] at hj
    have hji : j = i := by simpa using hj
    subst hji
    exact wpOp_mono (fun a' w' hh => ⟨fun hd _ => hh.1 hd, wpPlan_spec hs hQ r _ _ _ hB.2 hh.2⟩) h

/-- A region that draws its order, walked in the order of a plan. -/
theorem plan_region {id : Nat} {a : Act} {w : World} (p : List (Nat × Bool)) (S : World → Prop) (ds : List Nat) (hm : P.follows .mixedOrders = true)
    (hB : (Region.noSelect ops && decide (p.length = ops.size) && planB .any ops ds p (Array.replicate ops.size false)) = true)
    (hQ : ∀ c a d v w, Q (.panic c) (Act.put a d v) w → Q (.panic c) a w) (h : wpPlan P ops Q S ds p a w.drew) : (Code.region id ops true).wp P Q a w := by
  simp only [Bool.and_eq_true, decide_eq_true_eq] at hB
  obtain ⟨⟨h1, h2⟩, h3⟩ := hB
  refine wp_region_any hm (wpAny_of_T (S := S) (ds := ds) _ _ _ _ ?_)
  rw [← h2]
  rw [← h2] at h3
  exact wpPlan_spec h1 hQ p _ _ _ h3 h

variable {i : Nat} {o : Oper} {v : Value} {r : List (Nat × Bool)} {a a' : Act} {w : World} {N : Option Tmp}
theorem plan_v (ho : ops[i]? = some o) (hN : o.dst = N) (hS : S w) (hw : Region.wanted o (yielded ops a.tmps) = true) (hy : ∀ w, S w → (execOp a.eval o).run P w = .ok (.value v) w)
    (ha : a.put N v = a') (h : wpPlan P ops Q S ds r a' w) : wpPlan P ops Q S ds ((i, true) :: r) a w := by
  subst ha
  subst hN
  exact ⟨o, v, ho, hS, fun w hS => .inl ⟨hw, .inl (hy w hS)⟩, h⟩
theorem plan_c {f : FuncId} {args : Array Value} (ho : ops[i]? = some o) (hN : o.dst = N) (hS : S w) (hw : Region.wanted o (yielded ops a.tmps) = true)
    (hy : ∀ w, S w → (execOp a.eval o).run P w = .ok (.enter f args) w) (hc : ∀ w, S w → Calls P f args w (fun e w' => e = .returned v ∧ w' = w))
    (ha : a.put N v = a') (h : wpPlan P ops Q S ds r a' w) : wpPlan P ops Q S ds ((i, true) :: r) a w := by
  subst ha
  subst hN
  exact ⟨o, v, ho, hS, fun w hS => .inl ⟨hw, .inr (.inr ⟨f, args, hy w hS, hc w hS⟩)⟩, h⟩
theorem plan_e (ho : ops[i]? = some o) (hw : Region.wanted o (yielded ops a.tmps) = true)
    (h : ∀ K : Act → World → Prop, (∀ a' w', (i ∉ ds → S w') → wpPlan P ops Q S ds r a' w' → K a' w') → Oper.wp P o a w K Q) : wpPlan P ops Q S ds ((i, false) :: r) a w := by
  show wpOp P ops Q i _ a w
  unfold wpOp
  simp only [ho, hw, if_true]
  exact .inl (h _ (fun _ _ h1 h2 => ⟨h1, h2⟩))
theorem plan_done (h : Q .normal a w) : wpPlan P ops Q S ds [] a w := h
/-- The act written out. -/
theorem plan_norm (ha : a = a') (h : wpPlan P ops Q S ds r a' w) : wpPlan P ops Q S ds r a w := by
  subst ha
  exact h
end
end Go.Proofs.Ytodlpofpeoiedaa

/-
  The contract of miradorref13.Parse.
-/
namespace Go.Proofs.Ytodlpofpeoiedaa
open Go.RowKit

theorem rint_eq (s : ByteArray) (v : Int) (w : World) (hs : Hid (s.size ≤ 7)) (hv : Hid (v = beV s.data.toList)) :
    Calls Try.prog 76 #[.string s] w fun e w' => e = .returned (.int .i64 v) ∧ w' = w := by
  rw [hv.out]
  exact (rint_any s w hs.out).mono fun _ _ ⟨h1, h2⟩ => ⟨h1, h2.symm⟩

theorem ext2_size (s : ByteArray) (i : Nat) : (s.extract i (i + 2)).size ≤ 7 := by rw [ByteArray.size_extract]; omega

set_option maxHeartbeats 8000000 in
set_option maxRecDepth 100000 in
theorem rparse_long (s : ByteArray) (x4 x6 x8 b0 b1 b2 b3 b10 b11 b12 : Int) (V : Bool) (w : World) (h16 : 16 ≤ s.size) (hs : s.size ≤ 1099511627776)
    (C4 : Hid (∀ w, Calls Try.prog 76 #[.string (s.extract 4 6)] w fun e w' => e = .returned (.int .i64 x4) ∧ w' = w))
    (C6 : Hid (∀ w, Calls Try.prog 76 #[.string (s.extract 6 8)] w fun e w' => e = .returned (.int .i64 x6) ∧ w' = w))
    (C8 : Hid (∀ w, Calls Try.prog 76 #[.string (s.extract 8 10)] w fun e w' => e = .returned (.int .i64 x8) ∧ w' = w))
    (CV : Hid (∀ w, Calls Try.prog 18 #[.agg #[.int .i64 b0, .int .i64 b1, .bool (b2 != 0), .bool (b3 != 0), .int .i64 x4, .int .i64 x6, .int .i64 x8, .int .i64 b10, .int .i64 b11, .int .i64 b12]] w fun e w' => e = .returned (.bool V) ∧ Below w.heap.size w w'))
    (y0 : ∀ h : 0 < s.size, ((s[0]'h).toNat : Int) = b0) (y1 : ∀ h : 1 < s.size, ((s[1]'h).toNat : Int) = b1) (y2 : ∀ h : 2 < s.size, ((s[2]'h).toNat : Int) = b2) (y3 : ∀ h : 3 < s.size, ((s[3]'h).toNat : Int) = b3) (y10 : ∀ h : 10 < s.size, ((s[10]'h).toNat : Int) = b10) (y11 : ∀ h : 11 < s.size, ((s[11]'h).toNat : Int) = b11) (y12 : ∀ h : 12 < s.size, ((s[12]'h).toNat : Int) = b12) (u0 : IntKind.i64.wrap b0 = b0) (u1 : IntKind.i64.wrap b1 = b1) (u10 : IntKind.i64.wrap b10 = b10) (u11 : IntKind.i64.wrap b11 = b11) (u12 : IntKind.i64.wrap b12 = b12) :
    Calls Try.prog 16 #[.string s] w fun e w' => e = .returned (.tuple #[.agg (if V = true then #[.int .i64 b0, .int .i64 b1, .bool (b2 != 0), .bool (b3 != 0), .int .i64 x4, .int .i64 x6, .int .i64 x8, .int .i64 b10, .int .i64 b11, .int .i64 b12] else #[.int .i64 0, .int .i64 0, .bool false, .bool false, .int .i64 0, .int .i64 0, .int .i64 0, .int .i64 0, .int .i64 0, .int .i64 0]), .int .i64 (if V = true then 0 else 130)]) ∧ Below w.heap.size w w' := by
  have s4 : (6 : Int) ≤ s.size := by omega
  have s6 : (8 : Int) ≤ s.size := by omega
  have s8 : (10 : Int) ≤ s.size := by omega
  have q0 : (0 < s.size) = True := eq_true (by omega)
  have r0 : ((0 : Int) < (s.size : Int)) = True := eq_true (by omega)
  have q1 : (1 < s.size) = True := eq_true (by omega)
  have r1 : ((1 : Int) < (s.size : Int)) = True := eq_true (by omega)
  have q2 : (2 < s.size) = True := eq_true (by omega)
  have r2 : ((2 : Int) < (s.size : Int)) = True := eq_true (by omega)
  have q3 : (3 < s.size) = True := eq_true (by omega)
  have r3 : ((3 : Int) < (s.size : Int)) = True := eq_true (by omega)
  have q10 : (10 < s.size) = True := eq_true (by omega)
  have r10 : ((10 : Int) < (s.size : Int)) = True := eq_true (by omega)
  have q11 : (11 < s.size) = True := eq_true (by omega)
  have r11 : ((11 : Int) < (s.size : Int)) = True := eq_true (by omega)
  have q12 : (12 < s.size) = True := eq_true (by omega)
  have r12 : ((12 : Int) < (s.size : Int)) = True := eq_true (by omega)
  go_enter Try.func16, Try.ntmps16
  go_wp2_with fail
  refine plan_region [(0, true), (1, true), (2, true), (3, true), (4, true), (5, true), (6, true), (7, true), (8, true), (9, true), (10, true), (11, true), (12, true), (13, true), (14, true), (15, true), (16, true), (17, true), (18, true), (19, true), (20, true), (21, true), (22, true), (23, true), (24, true), (25, true), (26, true), (27, true), (28, true), (29, true), (30, true), (31, false), (32, false)] (fun _ => True) [] rfl (by kernel_rfl) (fun _ _ d _ _ h => by cases d <;> exact h) ?_
  refine plan_v (i := 0) (N := (some 10)) (v := ?v0) (a' := ?b0) rfl rfl trivial (by rfl) ?hy0 ?ha0 ?_
  case hy0 =>
    intro w' hS'
    go_simp
    with_reducible rfl
  case ha0 =>
    simp only [Act.put, List.setIfInBounds_toArray, List.set_cons_zero, List.set_cons_succ]
    rfl
  refine plan_v (i := 1) (N := (some 11)) (v := ?v1) (a' := ?b1) rfl rfl trivial (by rfl) ?hy1 ?ha1 ?_
  case hy1 =>
    intro w' hS'
    go_simp
    with_reducible rfl
  case ha1 =>
    simp only [Act.put, List.setIfInBounds_toArray, List.set_cons_zero, List.set_cons_succ]
    rfl
  refine plan_v (i := 2) (N := (some 12)) (v := ?v2) (a' := ?b2) rfl rfl trivial (by rfl) ?hy2 ?ha2 ?_
  case hy2 =>
    intro w' hS'
    go_simp
    with_reducible rfl
  case ha2 =>
    simp only [Act.put, List.setIfInBounds_toArray, List.set_cons_zero, List.set_cons_succ]
    rfl
  refine plan_v (i := 3) (N := (some 13)) (v := ?v3) (a' := ?b3) rfl rfl trivial (by rfl) ?hy3 ?ha3 ?_
  case hy3 =>
    intro w' hS'
    go_simp
    with_reducible rfl
  case ha3 =>
    simp only [Act.put, List.setIfInBounds_toArray, List.set_cons_zero, List.set_cons_succ]
    rfl
  refine plan_v (i := 4) (N := (some 14)) (v := ?v4) (a' := ?b4) rfl rfl trivial (by rfl) ?hy4 ?ha4 ?_
  case hy4 =>
    intro w' hS'
    go_simp
    with_reducible rfl
  case ha4 =>
    simp only [Act.put, List.setIfInBounds_toArray, List.set_cons_zero, List.set_cons_succ]
    rfl
  refine plan_v (i := 5) (N := (some 15)) (v := ?v5) (a' := ?b5) rfl rfl trivial (by rfl) ?hy5 ?ha5 ?_
  case hy5 =>
    intro w' hS'
    go_simp
    with_reducible rfl
  case ha5 =>
    simp only [Act.put, List.setIfInBounds_toArray, List.set_cons_zero, List.set_cons_succ]
    rfl
  refine plan_v (i := 6) (N := (some 16)) (v := ?v6) (a' := ?b6) rfl rfl trivial (by rfl) ?hy6 ?ha6 ?_
  case hy6 =>
    intro w' hS'
    go_simp
    with_reducible rfl
  case ha6 =>
    simp only [Act.put, List.setIfInBounds_toArray, List.set_cons_zero, List.set_cons_succ]
    rfl
  refine plan_v (i := 7) (N := (some 17)) (v := ?v7) (a' := ?b7) rfl rfl trivial (by rfl) ?hy7 ?ha7 ?_
  case hy7 =>
    intro w' hS'
    go_simp
    with_reducible rfl
  case ha7 =>
    simp only [Act.put, List.setIfInBounds_toArray, List.set_cons_zero, List.set_cons_succ]
    rfl
  refine plan_v (i := 8) (N := (some 18)) (v := ?v8) (a' := ?b8) rfl rfl trivial (by rfl) ?hy8 ?ha8 ?_
  case hy8 =>
    intro w' hS'
    go_simp
    with_reducible rfl
  case ha8 =>
    simp only [Act.put, List.setIfInBounds_toArray, List.set_cons_zero, List.set_cons_succ]
    rfl
  refine plan_v (i := 9) (N := (some 19)) (v := ?v9) (a' := ?b9) rfl rfl trivial (by rfl) ?hy9 ?ha9 ?_
  case hy9 =>
    intro w' hS'
    go_simp
    with_reducible rfl
  case ha9 =>
    simp only [Act.put, List.setIfInBounds_toArray, List.set_cons_zero, List.set_cons_succ]
    rfl
  refine plan_v (i := 10) (N := (some 20)) (v := ?v10) (a' := ?b10) rfl rfl trivial (by rfl) ?hy10 ?ha10 ?_
  case hy10 =>
    intro w' hS'
    go_simp
    with_reducible rfl
  case ha10 =>
    simp only [Act.put, List.setIfInBounds_toArray, List.set_cons_zero, List.set_cons_succ]
    rfl
  refine plan_v (i := 11) (N := (some 21)) (v := ?v11) (a' := ?b11) rfl rfl trivial (by rfl) ?hy11 ?ha11 ?_
  case hy11 =>
    intro w' hS'
    go_simp
    with_reducible rfl
  case ha11 =>
    simp only [Act.put, List.setIfInBounds_toArray, List.set_cons_zero, List.set_cons_succ]
    rfl
  refine plan_v (i := 12) (N := (some 22)) (v := ?v12) (a' := ?b12) rfl rfl trivial (by rfl) ?hy12 ?ha12 ?_
  case hy12 =>
    intro w' hS'
    go_simp
    with_reducible rfl
  case ha12 =>
    simp only [Act.put, List.setIfInBounds_toArray, List.set_cons_zero, List.set_cons_succ]
    rfl
  refine plan_v (i := 13) (N := (some 23)) (v := ?v13) (a' := ?b13) rfl rfl trivial (by rfl) ?hy13 ?ha13 ?_
  case hy13 =>
    intro w' hS'
    go_simp
    with_reducible rfl
  case ha13 =>
    simp only [Act.put, List.setIfInBounds_toArray, List.set_cons_zero, List.set_cons_succ]
    rfl
  refine plan_c (i := 14) (N := (some 24)) (v := .int .i64 x4) (f := 76) (args := #[.string (s.extract 4 6)]) (a' := ?b14) rfl rfl trivial (by rfl) ?hy14 (fun w' hS' => C4.out w') ?ha14 ?_
  case hy14 =>
    intro w' hS'
    go_simp
  case ha14 =>
    simp only [Act.put, List.setIfInBounds_toArray, List.set_cons_zero, List.set_cons_succ]
    rfl
  refine plan_v (i := 15) (N := (some 25)) (v := ?v15) (a' := ?b15) rfl rfl trivial (by rfl) ?hy15 ?ha15 ?_
  case hy15 =>
    intro w' hS'
    go_simp
    with_reducible rfl
  case ha15 =>
    simp only [Act.put, List.setIfInBounds_toArray, List.set_cons_zero, List.set_cons_succ]
    rfl
  refine plan_v (i := 16) (N := (some 26)) (v := ?v16) (a' := ?b16) rfl rfl trivial (by rfl) ?hy16 ?ha16 ?_
  case hy16 =>
    intro w' hS'
    go_simp
    with_reducible rfl
  case ha16 =>
    simp only [Act.put, List.setIfInBounds_toArray, List.set_cons_zero, List.set_cons_succ]
    rfl
  refine plan_c (i := 17) (N := (some 27)) (v := .int .i64 x6) (f := 76) (args := #[.string (s.extract 6 8)]) (a' := ?b17) rfl rfl trivial (by rfl) ?hy17 (fun w' hS' => C6.out w') ?ha17 ?_
  case hy17 =>
    intro w' hS'
    go_simp
  case ha17 =>
    simp only [Act.put, List.setIfInBounds_toArray, List.set_cons_zero, List.set_cons_succ]
    rfl
  refine plan_v (i := 18) (N := (some 28)) (v := ?v18) (a' := ?b18) rfl rfl trivial (by rfl) ?hy18 ?ha18 ?_
  case hy18 =>
    intro w' hS'
    go_simp
    with_reducible rfl
  case ha18 =>
    simp only [Act.put, List.setIfInBounds_toArray, List.set_cons_zero, List.set_cons_succ]
    rfl
  refine plan_v (i := 19) (N := (some 29)) (v := ?v19) (a' := ?b19) rfl rfl trivial (by rfl) ?hy19 ?ha19 ?_
  case hy19 =>
    intro w' hS'
    go_simp
    with_reducible rfl
  case ha19 =>
    simp only [Act.put, List.setIfInBounds_toArray, List.set_cons_zero, List.set_cons_succ]
    rfl
  refine plan_c (i := 20) (N := (some 30)) (v := .int .i64 x8) (f := 76) (args := #[.string (s.extract 8 10)]) (a' := ?b20) rfl rfl trivial (by rfl) ?hy20 (fun w' hS' => C8.out w') ?ha20 ?_
  case hy20 =>
    intro w' hS'
    go_simp
  case ha20 =>
    simp only [Act.put, List.setIfInBounds_toArray, List.set_cons_zero, List.set_cons_succ]
    rfl
  refine plan_v (i := 21) (N := (some 31)) (v := ?v21) (a' := ?b21) rfl rfl trivial (by rfl) ?hy21 ?ha21 ?_
  case hy21 =>
    intro w' hS'
    go_simp
    with_reducible rfl
  case ha21 =>
    simp only [Act.put, List.setIfInBounds_toArray, List.set_cons_zero, List.set_cons_succ]
    rfl
  refine plan_v (i := 22) (N := (some 32)) (v := ?v22) (a' := ?b22) rfl rfl trivial (by rfl) ?hy22 ?ha22 ?_
  case hy22 =>
    intro w' hS'
    go_simp
    with_reducible rfl
  case ha22 =>
    simp only [Act.put, List.setIfInBounds_toArray, List.set_cons_zero, List.set_cons_succ]
    rfl
  refine plan_v (i := 23) (N := (some 33)) (v := ?v23) (a' := ?b23) rfl rfl trivial (by rfl) ?hy23 ?ha23 ?_
  case hy23 =>
    intro w' hS'
    go_simp
    with_reducible rfl
  case ha23 =>
    simp only [Act.put, List.setIfInBounds_toArray, List.set_cons_zero, List.set_cons_succ]
    rfl
  refine plan_v (i := 24) (N := (some 34)) (v := ?v24) (a' := ?b24) rfl rfl trivial (by rfl) ?hy24 ?ha24 ?_
  case hy24 =>
    intro w' hS'
    go_simp
    with_reducible rfl
  case ha24 =>
    simp only [Act.put, List.setIfInBounds_toArray, List.set_cons_zero, List.set_cons_succ]
    rfl
  refine plan_v (i := 25) (N := (some 35)) (v := ?v25) (a' := ?b25) rfl rfl trivial (by rfl) ?hy25 ?ha25 ?_
  case hy25 =>
    intro w' hS'
    go_simp
    with_reducible rfl
  case ha25 =>
    simp only [Act.put, List.setIfInBounds_toArray, List.set_cons_zero, List.set_cons_succ]
    rfl
  refine plan_v (i := 26) (N := (some 36)) (v := ?v26) (a' := ?b26) rfl rfl trivial (by rfl) ?hy26 ?ha26 ?_
  case hy26 =>
    intro w' hS'
    go_simp
    with_reducible rfl
  case ha26 =>
    simp only [Act.put, List.setIfInBounds_toArray, List.set_cons_zero, List.set_cons_succ]
    rfl
  refine plan_v (i := 27) (N := (some 37)) (v := ?v27) (a' := ?b27) rfl rfl trivial (by rfl) ?hy27 ?ha27 ?_
  case hy27 =>
    intro w' hS'
    go_simp
    with_reducible rfl
  case ha27 =>
    simp only [Act.put, List.setIfInBounds_toArray, List.set_cons_zero, List.set_cons_succ]
    rfl
  refine plan_v (i := 28) (N := (some 38)) (v := ?v28) (a' := ?b28) rfl rfl trivial (by rfl) ?hy28 ?ha28 ?_
  case hy28 =>
    intro w' hS'
    go_simp
    with_reducible rfl
  case ha28 =>
    simp only [Act.put, List.setIfInBounds_toArray, List.set_cons_zero, List.set_cons_succ]
    rfl
  refine plan_v (i := 29) (N := (some 39)) (v := ?v29) (a' := ?b29) rfl rfl trivial (by rfl) ?hy29 ?ha29 ?_
  case hy29 =>
    intro w' hS'
    go_simp
    with_reducible rfl
  case ha29 =>
    simp only [Act.put, List.setIfInBounds_toArray, List.set_cons_zero, List.set_cons_succ]
    rfl
  refine plan_v (i := 30) (N := (some 40)) (v := ?v30) (a' := ?b30) rfl rfl trivial (by rfl) ?hy30 ?ha30 ?_
  case hy30 =>
    intro w' hS'
    go_simp
    with_reducible rfl
  case ha30 =>
    simp only [Act.put, List.setIfInBounds_toArray, List.set_cons_zero, List.set_cons_succ]
    rfl
  refine plan_e (i := 31) rfl (by rfl) (fun K hK => ?_)
  go_simp
  refine hK _ _ (fun _ => trivial) ?_
  clear hK K
  refine plan_e (i := 32) rfl (by rfl) (fun K hK => ?_)
  go_simp
  refine hK _ _ (fun _ => trivial) ?_
  clear hK K
  refine plan_done ?_
  go_wp2_with fail
  refine (CV.out _).mono ?_
  rintro e w1 ⟨rfl, hb1⟩
  have R1 := hide (show Blk w.heap.size 23 #[.int .i64 0, .int .i64 0, .bool false, .bool false, .int .i64 0, .int .i64 0, .int .i64 0, .int .i64 0, .int .i64 0, .int .i64 0] w1 from Blk.below (by exact (Blk.new w 23 #[.int .i64 0, .int .i64 0, .bool false, .bool false, .int .i64 0, .int .i64 0, .int .i64 0, .int .i64 0, .int .i64 0, .int .i64 0]).alloc (.cells #[.int .i64 b0, .int .i64 b1, .bool (b2 != 0), .bool (b3 != 0), .int .i64 x4, .int .i64 x6, .int .i64 x8, .int .i64 b10, .int .i64 b11, .int .i64 b12] 23)) hb1)
  have F1 := hide (show Blk (w.heap.size + 1) 23 #[.int .i64 b0, .int .i64 b1, .bool (b2 != 0), .bool (b3 != 0), .int .i64 x4, .int .i64 x6, .int .i64 x8, .int .i64 b10, .int .i64 b11, .int .i64 b12] w1 from by
    have h : Blk (w.alloc (.cells #[.int .i64 0, .int .i64 0, .bool false, .bool false, .int .i64 0, .int .i64 0, .int .i64 0, .int .i64 0, .int .i64 0, .int .i64 0] 23)).heap.size 23 #[.int .i64 b0, .int .i64 b1, .bool (b2 != 0), .bool (b3 != 0), .int .i64 x4, .int .i64 x6, .int .i64 x8, .int .i64 b10, .int .i64 b11, .int .i64 b12] w1 := Blk.below (by exact Blk.new (w.alloc (.cells #[.int .i64 0, .int .i64 0, .bool false, .bool false, .int .i64 0, .int .i64 0, .int .i64 0, .int .i64 0, .int .i64 0, .int .i64 0] 23)) 23 #[.int .i64 b0, .int .i64 b1, .bool (b2 != 0), .bool (b3 != 0), .int .i64 x4, .int .i64 x6, .int .i64 x8, .int .i64 b10, .int .i64 b11, .int .i64 b12]) hb1
    rwa [World.size_alloc] at h)
  have B1 : Hid (Below w.heap.size w w1) := by
    refine hide (Below.trans ?_ (hb1.mono ?_))
    · exact (((Below.refl _ _).alloc (Nat.le_refl _) _).alloc (by rw [World.size_alloc]; exact Nat.le_succ _) _).drew
    · simp [World.size_alloc]
      omega
  clear hb1
  have g0 : w1.cell? ⟨w.heap.size, 0, none⟩ = some (.int .i64 0) := R1.out.cell 0
  have p0 : w1.frozen? ⟨w.heap.size, 0, none⟩ = false := R1.out.fr 0
  have g1 : w1.cell? ⟨w.heap.size, 1, none⟩ = some (.int .i64 0) := R1.out.cell 1
  have p1 : w1.frozen? ⟨w.heap.size, 1, none⟩ = false := R1.out.fr 1
  have g2 : w1.cell? ⟨w.heap.size, 2, none⟩ = some (.bool false) := R1.out.cell 2
  have p2 : w1.frozen? ⟨w.heap.size, 2, none⟩ = false := R1.out.fr 2
  have g3 : w1.cell? ⟨w.heap.size, 3, none⟩ = some (.bool false) := R1.out.cell 3
  have p3 : w1.frozen? ⟨w.heap.size, 3, none⟩ = false := R1.out.fr 3
  have g4 : w1.cell? ⟨w.heap.size, 4, none⟩ = some (.int .i64 0) := R1.out.cell 4
  have p4 : w1.frozen? ⟨w.heap.size, 4, none⟩ = false := R1.out.fr 4
  have g5 : w1.cell? ⟨w.heap.size, 5, none⟩ = some (.int .i64 0) := R1.out.cell 5
  have p5 : w1.frozen? ⟨w.heap.size, 5, none⟩ = false := R1.out.fr 5
  have g6 : w1.cell? ⟨w.heap.size, 6, none⟩ = some (.int .i64 0) := R1.out.cell 6
  have p6 : w1.frozen? ⟨w.heap.size, 6, none⟩ = false := R1.out.fr 6
  have g7 : w1.cell? ⟨w.heap.size, 7, none⟩ = some (.int .i64 0) := R1.out.cell 7
  have p7 : w1.frozen? ⟨w.heap.size, 7, none⟩ = false := R1.out.fr 7
  have g8 : w1.cell? ⟨w.heap.size, 8, none⟩ = some (.int .i64 0) := R1.out.cell 8
  have p8 : w1.frozen? ⟨w.heap.size, 8, none⟩ = false := R1.out.fr 8
  have g9 : w1.cell? ⟨w.heap.size, 9, none⟩ = some (.int .i64 0) := R1.out.cell 9
  have p9 : w1.frozen? ⟨w.heap.size, 9, none⟩ = false := R1.out.fr 9
  have f0 : w1.cell? ⟨w.heap.size + 1, 0, none⟩ = some (.int .i64 b0) := F1.out.cell 0
  have h0 : w1.frozen? ⟨w.heap.size + 1, 0, none⟩ = false := F1.out.fr 0
  have f1 : w1.cell? ⟨w.heap.size + 1, 1, none⟩ = some (.int .i64 b1) := F1.out.cell 1
  have h1 : w1.frozen? ⟨w.heap.size + 1, 1, none⟩ = false := F1.out.fr 1
  have f2 : w1.cell? ⟨w.heap.size + 1, 2, none⟩ = some (.bool (b2 != 0)) := F1.out.cell 2
  have h2 : w1.frozen? ⟨w.heap.size + 1, 2, none⟩ = false := F1.out.fr 2
  have f3 : w1.cell? ⟨w.heap.size + 1, 3, none⟩ = some (.bool (b3 != 0)) := F1.out.cell 3
  have h3 : w1.frozen? ⟨w.heap.size + 1, 3, none⟩ = false := F1.out.fr 3
  have f4 : w1.cell? ⟨w.heap.size + 1, 4, none⟩ = some (.int .i64 x4) := F1.out.cell 4
  have h4 : w1.frozen? ⟨w.heap.size + 1, 4, none⟩ = false := F1.out.fr 4
  have f5 : w1.cell? ⟨w.heap.size + 1, 5, none⟩ = some (.int .i64 x6) := F1.out.cell 5
  have h5 : w1.frozen? ⟨w.heap.size + 1, 5, none⟩ = false := F1.out.fr 5
  have f6 : w1.cell? ⟨w.heap.size + 1, 6, none⟩ = some (.int .i64 x8) := F1.out.cell 6
  have h6 : w1.frozen? ⟨w.heap.size + 1, 6, none⟩ = false := F1.out.fr 6
  have f7 : w1.cell? ⟨w.heap.size + 1, 7, none⟩ = some (.int .i64 b10) := F1.out.cell 7
  have h7 : w1.frozen? ⟨w.heap.size + 1, 7, none⟩ = false := F1.out.fr 7
  have f8 : w1.cell? ⟨w.heap.size + 1, 8, none⟩ = some (.int .i64 b11) := F1.out.cell 8
  have h8 : w1.frozen? ⟨w.heap.size + 1, 8, none⟩ = false := F1.out.fr 8
  have f9 : w1.cell? ⟨w.heap.size + 1, 9, none⟩ = some (.int .i64 b12) := F1.out.cell 9
  have h9 : w1.frozen? ⟨w.heap.size + 1, 9, none⟩ = false := F1.out.fr 9
  cases V with
  | true =>
    go_wp2_with fail
    have RF0 := hide (show Blk w.heap.size 23 #[.int .i64 b0, .int .i64 0, .bool false, .bool false, .int .i64 0, .int .i64 0, .int .i64 0, .int .i64 0, .int .i64 0, .int .i64 0] _ from R1.out.set 0 (.int .i64 b0))
    have RF1 := hide (show Blk w.heap.size 23 #[.int .i64 b0, .int .i64 b1, .bool false, .bool false, .int .i64 0, .int .i64 0, .int .i64 0, .int .i64 0, .int .i64 0, .int .i64 0] _ from RF0.out.set 1 (.int .i64 b1))
    have RF2 := hide (show Blk w.heap.size 23 #[.int .i64 b0, .int .i64 b1, .bool (b2 != 0), .bool false, .int .i64 0, .int .i64 0, .int .i64 0, .int .i64 0, .int .i64 0, .int .i64 0] _ from RF1.out.set 2 (.bool (b2 != 0)))
    have RF3 := hide (show Blk w.heap.size 23 #[.int .i64 b0, .int .i64 b1, .bool (b2 != 0), .bool (b3 != 0), .int .i64 0, .int .i64 0, .int .i64 0, .int .i64 0, .int .i64 0, .int .i64 0] _ from RF2.out.set 3 (.bool (b3 != 0)))
    have RF4 := hide (show Blk w.heap.size 23 #[.int .i64 b0, .int .i64 b1, .bool (b2 != 0), .bool (b3 != 0), .int .i64 x4, .int .i64 0, .int .i64 0, .int .i64 0, .int .i64 0, .int .i64 0] _ from RF3.out.set 4 (.int .i64 x4))
    have RF5 := hide (show Blk w.heap.size 23 #[.int .i64 b0, .int .i64 b1, .bool (b2 != 0), .bool (b3 != 0), .int .i64 x4, .int .i64 x6, .int .i64 0, .int .i64 0, .int .i64 0, .int .i64 0] _ from RF4.out.set 5 (.int .i64 x6))
    have RF6 := hide (show Blk w.heap.size 23 #[.int .i64 b0, .int .i64 b1, .bool (b2 != 0), .bool (b3 != 0), .int .i64 x4, .int .i64 x6, .int .i64 x8, .int .i64 0, .int .i64 0, .int .i64 0] _ from RF5.out.set 6 (.int .i64 x8))
    have RF7 := hide (show Blk w.heap.size 23 #[.int .i64 b0, .int .i64 b1, .bool (b2 != 0), .bool (b3 != 0), .int .i64 x4, .int .i64 x6, .int .i64 x8, .int .i64 b10, .int .i64 0, .int .i64 0] _ from RF6.out.set 7 (.int .i64 b10))
    have RF8 := hide (show Blk w.heap.size 23 #[.int .i64 b0, .int .i64 b1, .bool (b2 != 0), .bool (b3 != 0), .int .i64 x4, .int .i64 x6, .int .i64 x8, .int .i64 b10, .int .i64 b11, .int .i64 0] _ from RF7.out.set 8 (.int .i64 b11))
    have RF9 := hide (show Blk w.heap.size 23 #[.int .i64 b0, .int .i64 b1, .bool (b2 != 0), .bool (b3 != 0), .int .i64 x4, .int .i64 x6, .int .i64 x8, .int .i64 b10, .int .i64 b11, .int .i64 b12] _ from RF8.out.set 9 (.int .i64 b12))
    exact bodyPost_ret (results_at Try.results16 _ rfl RF9.out Try.underlying23 rfl (by kernel_rfl)) rfl ⟨rfl, ((((((((((B1.out.setCell (p := ⟨w.heap.size, 0, none⟩) (Nat.le_refl _) _).setCell (p := ⟨w.heap.size, 1, none⟩) (Nat.le_refl _) _).setCell (p := ⟨w.heap.size, 2, none⟩) (Nat.le_refl _) _).setCell (p := ⟨w.heap.size, 3, none⟩) (Nat.le_refl _) _).setCell (p := ⟨w.heap.size, 4, none⟩) (Nat.le_refl _) _).setCell (p := ⟨w.heap.size, 5, none⟩) (Nat.le_refl _) _).setCell (p := ⟨w.heap.size, 6, none⟩) (Nat.le_refl _) _).setCell (p := ⟨w.heap.size, 7, none⟩) (Nat.le_refl _) _).setCell (p := ⟨w.heap.size, 8, none⟩) (Nat.le_refl _) _).setCell (p := ⟨w.heap.size, 9, none⟩) (Nat.le_refl _) _)⟩
  | false =>
    go_wp2_with fail
    have RF0 := hide (show Blk w.heap.size 23 #[.int .i64 0, .int .i64 0, .bool false, .bool false, .int .i64 0, .int .i64 0, .int .i64 0, .int .i64 0, .int .i64 0, .int .i64 0] _ from R1.out.set 0 (.int .i64 0))
    have RF1 := hide (show Blk w.heap.size 23 #[.int .i64 0, .int .i64 0, .bool false, .bool false, .int .i64 0, .int .i64 0, .int .i64 0, .int .i64 0, .int .i64 0, .int .i64 0] _ from RF0.out.set 1 (.int .i64 0))
    have RF2 := hide (show Blk w.heap.size 23 #[.int .i64 0, .int .i64 0, .bool false, .bool false, .int .i64 0, .int .i64 0, .int .i64 0, .int .i64 0, .int .i64 0, .int .i64 0] _ from RF1.out.set 2 (.bool false))
    have RF3 := hide (show Blk w.heap.size 23 #[.int .i64 0, .int .i64 0, .bool false, .bool false, .int .i64 0, .int .i64 0, .int .i64 0, .int .i64 0, .int .i64 0, .int .i64 0] _ from RF2.out.set 3 (.bool false))
    have RF4 := hide (show Blk w.heap.size 23 #[.int .i64 0, .int .i64 0, .bool false, .bool false, .int .i64 0, .int .i64 0, .int .i64 0, .int .i64 0, .int .i64 0, .int .i64 0] _ from RF3.out.set 4 (.int .i64 0))
    have RF5 := hide (show Blk w.heap.size 23 #[.int .i64 0, .int .i64 0, .bool false, .bool false, .int .i64 0, .int .i64 0, .int .i64 0, .int .i64 0, .int .i64 0, .int .i64 0] _ from RF4.out.set 5 (.int .i64 0))
    have RF6 := hide (show Blk w.heap.size 23 #[.int .i64 0, .int .i64 0, .bool false, .bool false, .int .i64 0, .int .i64 0, .int .i64 0, .int .i64 0, .int .i64 0, .int .i64 0] _ from RF5.out.set 6 (.int .i64 0))
    have RF7 := hide (show Blk w.heap.size 23 #[.int .i64 0, .int .i64 0, .bool false, .bool false, .int .i64 0, .int .i64 0, .int .i64 0, .int .i64 0, .int .i64 0, .int .i64 0] _ from RF6.out.set 7 (.int .i64 0))
    have RF8 := hide (show Blk w.heap.size 23 #[.int .i64 0, .int .i64 0, .bool false, .bool false, .int .i64 0, .int .i64 0, .int .i64 0, .int .i64 0, .int .i64 0, .int .i64 0] _ from RF7.out.set 8 (.int .i64 0))
    have RF9 := hide (show Blk w.heap.size 23 #[.int .i64 0, .int .i64 0, .bool false, .bool false, .int .i64 0, .int .i64 0, .int .i64 0, .int .i64 0, .int .i64 0, .int .i64 0] _ from RF8.out.set 9 (.int .i64 0))
    exact bodyPost_ret (results_at Try.results16 _ rfl RF9.out Try.underlying23 rfl (by kernel_rfl)) rfl ⟨rfl, ((((((((((B1.out.setCell (p := ⟨w.heap.size, 0, none⟩) (Nat.le_refl _) _).setCell (p := ⟨w.heap.size, 1, none⟩) (Nat.le_refl _) _).setCell (p := ⟨w.heap.size, 2, none⟩) (Nat.le_refl _) _).setCell (p := ⟨w.heap.size, 3, none⟩) (Nat.le_refl _) _).setCell (p := ⟨w.heap.size, 4, none⟩) (Nat.le_refl _) _).setCell (p := ⟨w.heap.size, 5, none⟩) (Nat.le_refl _) _).setCell (p := ⟨w.heap.size, 6, none⟩) (Nat.le_refl _) _).setCell (p := ⟨w.heap.size, 7, none⟩) (Nat.le_refl _) _).setCell (p := ⟨w.heap.size, 8, none⟩) (Nat.le_refl _) _).setCell (p := ⟨w.heap.size, 9, none⟩) (Nat.le_refl _) _)⟩

end Go.Proofs.Ytodlpofpeoiedaa

/-
  The contract of miradorref13.Parse.
-/
namespace Go.Proofs.Ytodlpofpeoiedaa
open Go.RowKit

theorem byte_at (s : ByteArray) (i : Nat) : ∀ h : i < s.size, ((s[i]'h).toNat : Int) = byteV s i := by
  intro h
  unfold byteV
  have e : (s.extract i (i + 1)).data.toList = [s[i]] := by
    rw [ByteArray.data_extract, Array.toList_extract, List.extract_eq_take_drop]
    have h' : i < s.data.toList.length := by simpa using h
    have : i + 1 - i = 1 := by omega
    rw [this, List.drop_eq_getElem_cons h']
    rfl
  rw [e]
  simp [beV]

theorem byteV_bd (s : ByteArray) (i : Nat) : 0 ≤ byteV s i ∧ byteV s i ≤ 255 := by
  by_cases h : i < s.size
  · rw [← byte_at s i h]
    have := (s[i]'h).toNat_lt
    omega
  · have : (s.extract i (i + 1)).data.toList = [] := by
      rw [ByteArray.data_extract, Array.toList_extract, List.extract_eq_take_drop]
      simp
      omega
    unfold byteV
    rw [this]
    simp [beV]

set_option maxHeartbeats 1600000 in
set_option maxRecDepth 100000 in
theorem rparse_short (s : ByteArray) (w : World) (h16 : s.size < 16) :
    Calls Try.prog 16 #[.string s] w fun e w' => e = .returned (.tuple #[fmtV zeroF, .int .i64 2]) ∧ Below w.heap.size w w' := by
  have h1 : (s.size : Int) < 16 := by omega
  have R1 := hide (Blk.new w 23 #[.int .i64 0, .int .i64 0, .bool false, .bool false, .int .i64 0, .int .i64 0, .int .i64 0, .int .i64 0, .int .i64 0, .int .i64 0])
  have B1 := hide ((Below.refl w.heap.size w).alloc (Nat.le_refl _) (.cells #[.int .i64 0, .int .i64 0, .bool false, .bool false, .int .i64 0, .int .i64 0, .int .i64 0, .int .i64 0, .int .i64 0, .int .i64 0] 23))
  go_enter Try.func16, Try.ntmps16
  go_upto_region 2 with fail
  generalize w.alloc (.cells #[.int .i64 0, .int .i64 0, .bool false, .bool false, .int .i64 0, .int .i64 0, .int .i64 0, .int .i64 0, .int .i64 0, .int .i64 0] 23) = w1 at *
  have g0 : w1.cell? ⟨w.heap.size, 0, none⟩ = some (.int .i64 0) := R1.out.cell 0
  have p0 : w1.frozen? ⟨w.heap.size, 0, none⟩ = false := R1.out.fr 0
  have g1 : w1.cell? ⟨w.heap.size, 1, none⟩ = some (.int .i64 0) := R1.out.cell 1
  have p1 : w1.frozen? ⟨w.heap.size, 1, none⟩ = false := R1.out.fr 1
  have g2 : w1.cell? ⟨w.heap.size, 2, none⟩ = some (.bool false) := R1.out.cell 2
  have p2 : w1.frozen? ⟨w.heap.size, 2, none⟩ = false := R1.out.fr 2
  have g3 : w1.cell? ⟨w.heap.size, 3, none⟩ = some (.bool false) := R1.out.cell 3
  have p3 : w1.frozen? ⟨w.heap.size, 3, none⟩ = false := R1.out.fr 3
  have g4 : w1.cell? ⟨w.heap.size, 4, none⟩ = some (.int .i64 0) := R1.out.cell 4
  have p4 : w1.frozen? ⟨w.heap.size, 4, none⟩ = false := R1.out.fr 4
  have g5 : w1.cell? ⟨w.heap.size, 5, none⟩ = some (.int .i64 0) := R1.out.cell 5
  have p5 : w1.frozen? ⟨w.heap.size, 5, none⟩ = false := R1.out.fr 5
  have g6 : w1.cell? ⟨w.heap.size, 6, none⟩ = some (.int .i64 0) := R1.out.cell 6
  have p6 : w1.frozen? ⟨w.heap.size, 6, none⟩ = false := R1.out.fr 6
  have g7 : w1.cell? ⟨w.heap.size, 7, none⟩ = some (.int .i64 0) := R1.out.cell 7
  have p7 : w1.frozen? ⟨w.heap.size, 7, none⟩ = false := R1.out.fr 7
  have g8 : w1.cell? ⟨w.heap.size, 8, none⟩ = some (.int .i64 0) := R1.out.cell 8
  have p8 : w1.frozen? ⟨w.heap.size, 8, none⟩ = false := R1.out.fr 8
  have g9 : w1.cell? ⟨w.heap.size, 9, none⟩ = some (.int .i64 0) := R1.out.cell 9
  have p9 : w1.frozen? ⟨w.heap.size, 9, none⟩ = false := R1.out.fr 9
  go_wp2_with fail
  have RF0 := hide (show Blk w.heap.size 23 #[.int .i64 0, .int .i64 0, .bool false, .bool false, .int .i64 0, .int .i64 0, .int .i64 0, .int .i64 0, .int .i64 0, .int .i64 0] _ from R1.out.set 0 (.int .i64 0))
  have RF1 := hide (show Blk w.heap.size 23 #[.int .i64 0, .int .i64 0, .bool false, .bool false, .int .i64 0, .int .i64 0, .int .i64 0, .int .i64 0, .int .i64 0, .int .i64 0] _ from RF0.out.set 1 (.int .i64 0))
  have RF2 := hide (show Blk w.heap.size 23 #[.int .i64 0, .int .i64 0, .bool false, .bool false, .int .i64 0, .int .i64 0, .int .i64 0, .int .i64 0, .int .i64 0, .int .i64 0] _ from RF1.out.set 2 (.bool false))
  have RF3 := hide (show Blk w.heap.size 23 #[.int .i64 0, .int .i64 0, .bool false, .bool false, .int .i64 0, .int .i64 0, .int .i64 0, .int .i64 0, .int .i64 0, .int .i64 0] _ from RF2.out.set 3 (.bool false))
  have RF4 := hide (show Blk w.heap.size 23 #[.int .i64 0, .int .i64 0, .bool false, .bool false, .int .i64 0, .int .i64 0, .int .i64 0, .int .i64 0, .int .i64 0, .int .i64 0] _ from RF3.out.set 4 (.int .i64 0))
  have RF5 := hide (show Blk w.heap.size 23 #[.int .i64 0, .int .i64 0, .bool false, .bool false, .int .i64 0, .int .i64 0, .int .i64 0, .int .i64 0, .int .i64 0, .int .i64 0] _ from RF4.out.set 5 (.int .i64 0))
  have RF6 := hide (show Blk w.heap.size 23 #[.int .i64 0, .int .i64 0, .bool false, .bool false, .int .i64 0, .int .i64 0, .int .i64 0, .int .i64 0, .int .i64 0, .int .i64 0] _ from RF5.out.set 6 (.int .i64 0))
  have RF7 := hide (show Blk w.heap.size 23 #[.int .i64 0, .int .i64 0, .bool false, .bool false, .int .i64 0, .int .i64 0, .int .i64 0, .int .i64 0, .int .i64 0, .int .i64 0] _ from RF6.out.set 7 (.int .i64 0))
  have RF8 := hide (show Blk w.heap.size 23 #[.int .i64 0, .int .i64 0, .bool false, .bool false, .int .i64 0, .int .i64 0, .int .i64 0, .int .i64 0, .int .i64 0, .int .i64 0] _ from RF7.out.set 8 (.int .i64 0))
  have RF9 := hide (show Blk w.heap.size 23 #[.int .i64 0, .int .i64 0, .bool false, .bool false, .int .i64 0, .int .i64 0, .int .i64 0, .int .i64 0, .int .i64 0, .int .i64 0] _ from RF8.out.set 9 (.int .i64 0))
  exact bodyPost_ret (results_at Try.results16 _ rfl RF9.out Try.underlying23 rfl (by kernel_rfl)) rfl ⟨rfl, ((((((((((B1.out.setCell (p := ⟨w.heap.size, 0, none⟩) (Nat.le_refl _) _).setCell (p := ⟨w.heap.size, 1, none⟩) (Nat.le_refl _) _).setCell (p := ⟨w.heap.size, 2, none⟩) (Nat.le_refl _) _).setCell (p := ⟨w.heap.size, 3, none⟩) (Nat.le_refl _) _).setCell (p := ⟨w.heap.size, 4, none⟩) (Nat.le_refl _) _).setCell (p := ⟨w.heap.size, 5, none⟩) (Nat.le_refl _) _).setCell (p := ⟨w.heap.size, 6, none⟩) (Nat.le_refl _) _).setCell (p := ⟨w.heap.size, 7, none⟩) (Nat.le_refl _) _).setCell (p := ⟨w.heap.size, 8, none⟩) (Nat.le_refl _) _).setCell (p := ⟨w.heap.size, 9, none⟩) (Nat.le_refl _) _)⟩


/-- The document's Parse. -/
theorem rparse_any (s : ByteArray) (w : World) (hs : s.size ≤ 1099511627776) :
    Calls Try.prog 16 #[.string s] w fun e w' => e = .returned (.tuple #[fmtV (parseF s), .int .i64 (parseE s)]) ∧ Below w.heap.size w w' := by
  by_cases h : s.size < 16
  · have e1 : parseE s = 2 := by unfold parseE; rw [if_pos h]
    have e2 : parseF s = zeroF := by unfold parseF; rw [e1]; rfl
    rw [e1, e2]
    exact rparse_short s w h
  · have wr : ∀ i, IntKind.i64.wrap (byteV s i) = byteV s i := fun i => by have := byteV_bd s i; exact IntWalk.i64_in _ (by omega)
    have := rparse_long s (wordV s 4) (wordV s 6) (wordV s 8) (byteV s 0) (byteV s 1) (byteV s 2) (byteV s 3) (byteV s 10) (byteV s 11) (byteV s 12) (validB (rawF s)) w (by omega) hs
      (fun w => rint_eq _ _ w (hide (ext2_size s 4)) (hide rfl)) (fun w => rint_eq _ _ w (hide (ext2_size s 6)) (hide rfl)) (fun w => rint_eq _ _ w (hide (ext2_size s 8)) (hide rfl))
      (fun w => rvalid_any (rawF s) w) (byte_at s 0) (byte_at s 1) (byte_at s 2) (byte_at s 3) (byte_at s 10) (byte_at s 11) (byte_at s 12) (wr 0) (wr 1) (wr 10) (wr 11) (wr 12)
    refine this.mono ?_
    rintro e w' ⟨rfl, hb⟩
    refine ⟨?_, hb⟩
    unfold parseF parseE
    rw [if_neg h]
    cases validB (rawF s) <;> rfl

end Go.Proofs.Ytodlpofpeoiedaa
