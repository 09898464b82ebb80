/-
  Which rectangle may be: plain.Fits and the document's.
-/
import Derived.Test.YtodlpofpeoiedaaBD
import Derived.Deep.Cut
namespace Go.Proofs.Ytodlpofpeoiedaa
open Go.RowKit Go.Sort

/-- May a rectangle be? -/
def fitsB (f : Fmt) (a b : Int) : Bool := validB f && sideB a && sideB b

set_option maxHeartbeats 1600000 in
set_option maxRecDepth 100000 in
theorem fits_walk (f : Fmt) (V A B : Bool) (a b : Int) (w : World)
    (K17 : Hid (∀ w, Calls Try.prog 17 #[fmtV f] w fun e w' => e = .returned (.bool V) ∧ Below w.heap.size w w'))
    (KA : Hid (∀ w, Calls Try.prog 86 #[.int .i64 a] w fun e w' => e = .returned (.bool A) ∧ w = w'))
    (KB : Hid (∀ w, Calls Try.prog 86 #[.int .i64 b] w fun e w' => e = .returned (.bool B) ∧ w = w')) :
    Calls Try.prog 24 #[fmtV f, .int .i64 a, .int .i64 b] w fun e w' => e = .returned (.bool (V && A && B)) ∧ Below w.heap.size w w' := by
  have B0 := hide ((Below.refl w.heap.size w).alloc (Nat.le_refl _) (.cells #[.int .i64 f.bits, .int .i64 f.depth, .bool f.big, .bool f.tru, .int .i64 f.rm, .int .i64 f.gm, .int .i64 f.bm, .int .i64 f.rs, .int .i64 f.gs, .int .i64 f.bs] 23))
  go_enter Try.func24, Try.ntmps24
  go_wp2_with fail
  refine (K17.out _).mono ?_
  rintro e w1 ⟨rfl, hb1⟩
  have B1 := hide (B0.out.trans (hb1.mono B0.out.size))
  clear hb1
  cases V with
  | false =>
    go_wp2_with fail
    go_ret
    exact ⟨rfl, B1.out⟩
  | true =>
    go_wp2_with fail
    refine (KA.out _).mono ?_
    rintro e w2 ⟨rfl, rfl⟩
    cases A with
    | false =>
      go_wp2_with fail
      go_ret
      exact ⟨rfl, B1.out⟩
    | true =>
      go_wp2_with fail
      refine (KB.out _).mono ?_
      rintro e w3 ⟨rfl, rfl⟩
      go_wp2_with fail
      go_ret
      exact ⟨rfl, B1.out⟩

theorem fits_any (f : Fmt) (a b : Int) (w : World) (hf : f.fit) :
    Calls Try.prog 24 #[fmtV f, .int .i64 a, .int .i64 b] w fun e w' => e = .returned (.bool (fitsB f a b)) ∧ Below w.heap.size w w' :=
  fits_walk f _ _ _ a b w (fun w => valid_fit f w hf) (fun w => side_any a w) (fun w => side_any b w)

set_option maxHeartbeats 1600000 in
set_option maxRecDepth 100000 in
theorem rfits_walk (f : Fmt) (V : Bool) (a b : Int) (w : World)
    (K18 : Hid (∀ w, Calls Try.prog 18 #[fmtV f] w fun e w' => e = .returned (.bool V) ∧ Below w.heap.size w w'))
    : Calls Try.prog 31 #[fmtV f, .int .i64 a, .int .i64 b] w fun e w' => e = .returned (.bool (V && sideB a && sideB b)) ∧ Below w.heap.size w w' := by
  have B0 := hide ((Below.refl w.heap.size w).alloc (Nat.le_refl _) (.cells #[.int .i64 f.bits, .int .i64 f.depth, .bool f.big, .bool f.tru, .int .i64 f.rm, .int .i64 f.gm, .int .i64 f.bm, .int .i64 f.rs, .int .i64 f.gs, .int .i64 f.bs] 23))
  go_enter Try.func31, Try.ntmps31
  go_wp2_with fail
  refine (K18.out _).mono ?_
  rintro e w1 ⟨rfl, hb1⟩
  have B1 := hide (B0.out.trans (hb1.mono B0.out.size))
  clear hb1
  cases V with
  | false =>
    go_wp2_with fail
    go_ret
    exact ⟨rfl, B1.out⟩
  | true =>
    by_cases h1 : 0 ≤ a
    · by_cases h2 : a ≤ 4096
      · have eA := hide (show sideB a = true from decide_eq_true ⟨h1, h2⟩)
        by_cases h3 : 0 ≤ b
        · by_cases h4 : b ≤ 4096
          · have eB := hide (show sideB b = true from decide_eq_true ⟨h3, h4⟩)
            have d4 : decide (b ≤ 4096) = true := decide_eq_true h4
            go_wp2_with fail
            go_ret
            exact ⟨by rw [eA.out, eB.out]; rfl, B1.out⟩
          · have eB := hide (show sideB b = false from decide_eq_false (fun h => h4 h.2))
            have d4 : decide (b ≤ 4096) = false := decide_eq_false h4
            go_wp2_with fail
            go_ret
            exact ⟨by rw [eA.out, eB.out]; rfl, B1.out⟩
        · have eB := hide (show sideB b = false from decide_eq_false (fun h => h3 h.1))
          go_wp2_with fail
          go_ret
          exact ⟨by rw [eA.out, eB.out]; rfl, B1.out⟩
      · have eA := hide (show sideB a = false from decide_eq_false (fun h => h2 h.2))
        go_wp2_with fail
        go_ret
        exact ⟨by rw [eA.out]; rfl, B1.out⟩
    · have eA := hide (show sideB a = false from decide_eq_false (fun h => h1 h.1))
      go_wp2_with fail
      go_ret
      exact ⟨by rw [eA.out]; rfl, B1.out⟩

theorem rfits_any (f : Fmt) (a b : Int) (w : World) :
    Calls Try.prog 31 #[fmtV f, .int .i64 a, .int .i64 b] w fun e w' => e = .returned (.bool (fitsB f a b)) ∧ Below w.heap.size w w' :=
  rfits_walk f _ a b w (fun w => rvalid_any f w)

end Go.Proofs.Ytodlpofpeoiedaa
