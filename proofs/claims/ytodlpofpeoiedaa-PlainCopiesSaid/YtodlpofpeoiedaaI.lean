/-
  A pixel format: when it may be, and the contracts of Valid in the program and in the document's answer; Standard.
-/
import Derived.Test.YtodlpofpeoiedaaH
namespace Go.Proofs.Ytodlpofpeoiedaa
open Go.RowKit

/-- A pixel format. -/
structure Fmt where
  bits : Int
  depth : Int
  big : Bool
  tru : Bool
  rm : Int
  gm : Int
  bm : Int
  rs : Int
  gs : Int
  bs : Int

abbrev fmtC (f : Fmt) : Array Value := #[.int .i64 f.bits, .int .i64 f.depth, .bool f.big, .bool f.tru, .int .i64 f.rm, .int .i64 f.gm, .int .i64 f.bm, .int .i64 f.rs, .int .i64 f.gs, .int .i64 f.bs]
abbrev fmtV (f : Fmt) : Value := .agg (fmtC f)

/-- A part's bits. -/
def mk (m s : Int) : Int := m * 2 ^ s.toNat

def apart (f : Fmt) : Bool := bits .and .i64 (mk f.rm f.rs) (mk f.gm f.gs) == 0 && bits .and .i64 (mk f.rm f.rs) (mk f.bm f.bs) == 0 && bits .and .i64 (mk f.gm f.gs) (mk f.bm f.bs) == 0
def headOk (f : Fmt) : Bool := decide ((f.bits = 8 ∨ f.bits = 16 ∨ f.bits = 32) ∧ 1 ≤ f.depth ∧ f.depth ≤ f.bits ∧ f.tru = true)
/-- May a format be? -/
def validB (f : Fmt) : Bool := headOk f && partOk f.bits f.rm f.rs && partOk f.bits f.gm f.gs && partOk f.bits f.bm f.bs && apart f

def stdF : Fmt := ⟨32, 24, false, true, 255, 255, 255, 16, 8, 0⟩

set_option maxHeartbeats 400000 in
theorem standard_any (w : World) : Calls Try.prog 21 #[] w fun e w' => e = .returned (.agg #[.int .i64 32, .int .i64 24, .bool false, .bool true, .int .i64 255, .int .i64 255, .int .i64 255, .int .i64 16, .int .i64 8, .int .i64 0]) ∧ Below w.heap.size w w' := by
  go_enter Try.func21, Try.ntmps21
  go_wp2
  go_outline
  exact bodyPost_ret (v := .agg #[.int .i64 32, .int .i64 24, .bool false, .bool true, .int .i64 255, .int .i64 255, .int .i64 255, .int .i64 16, .int .i64 8, .int .i64 0]) (by simp [results, Try.results21, go_sem]) rfl ⟨rfl, (Below.refl _ _).alloc (Nat.le_refl _) _⟩

set_option maxHeartbeats 400000 in
theorem parts_any (a b : Int) (c d : Bool) (rm gm bm rs gs bs : Int) (w : World) :
    Calls Try.prog 77 #[.agg #[.int .i64 a, .int .i64 b, .bool c, .bool d, .int .i64 rm, .int .i64 gm, .int .i64 bm, .int .i64 rs, .int .i64 gs, .int .i64 bs]] w
      fun e w' => e = .returned (.agg #[.int .i64 rm, .int .i64 rs, .int .i64 gm, .int .i64 gs, .int .i64 bm, .int .i64 bs]) ∧ Below w.heap.size w w' := by
  go_enter Try.func77, Try.ntmps77
  go_wp2
  go_outline
  exact bodyPost_ret (v := .agg #[.int .i64 rm, .int .i64 rs, .int .i64 gm, .int .i64 gs, .int .i64 bm, .int .i64 bs]) (by simp [results, Try.results77, go_sem]) rfl ⟨rfl, ((Below.refl _ _).alloc (Nat.le_refl _) _).alloc (by simp) _⟩

end Go.Proofs.Ytodlpofpeoiedaa
