/-
  FormatBytes: the law, and the row.
-/
import Derived.Test.YtodlpofpeoiedaaX
import Derived.Test.YtodlpofpeoiedaaRows
import Derived.Lib.SmallJoins
import Derived.WalkKit
import Derived.ProofKit
import Derived.OpenShut
import Derived.ShutString
import Derived.ChangeOld
import Derived.Below
namespace Go.Proofs.Ytodlpofpeoiedaa
open Go.RowKit

set_option maxHeartbeats 800000 in
set_option maxRecDepth 100000 in
/-- miradorlaw13.FormatBytes. -/
theorem law3_any (f : Fmt) (s : ByteArray) (w : World) (hr : f.rs ≤ 9223372036854775807) (hg : f.gs ≤ 9223372036854775807) (hb : f.bs ≤ 9223372036854775807) :
    Calls Try.prog 3 #[fmtV f, .string s] w fun e w' => e = .returned (.bool true) ∧ Below w.heap.size w w' := by
  by_cases hs : s.size ≤ 60
  · exact law3_walk f (parseF s) s (bytesF f) (validB f) (parseE s) w (by omega) (fun w => parse_any s w (by omega)) (fun w => rparse_any s w (by omega))
      (fun w => valid_any f w hr hg hb) (fun w => rvalid_any f w) (fun w => fbytes_any f w) (fun w => rfbytes_any f w)
  · have hs' : (60 : Int) < s.size := by omega
    have B0 := hide ((Below.refl w.heap.size w).alloc (Nat.le_refl _) (.cells #[.int .i64 f.bits, .int .i64 f.depth, .bool f.big, .bool f.tru, .int .i64 f.rm, .int .i64 f.gm, .int .i64 f.bm, .int .i64 f.rs, .int .i64 f.gs, .int .i64 f.bs] 23))
    go_enter Try.func3, Try.ntmps3
    go_upto_region 1 with fail
    generalize w.alloc (.cells #[.int .i64 f.bits, .int .i64 f.depth, .bool f.big, .bool f.tru, .int .i64 f.rm, .int .i64 f.gm, .int .i64 f.bm, .int .i64 f.rs, .int .i64 f.gs, .int .i64 f.bs] 23) = w0 at *
    go_wp2_with fail
    refine (works14_any _).mono ?_
    rintro e w1 ⟨rfl, hb1⟩
    have B1 := hide (B0.out.trans (hb1.mono B0.out.size))
    clear hb1
    go_wp2_with fail
    go_ret
    exact ⟨rfl, B1.out⟩

end Go.Proofs.Ytodlpofpeoiedaa

namespace Go.Proofs.Ytodlpofpeoiedaa
open Go.ChangeShapes Go.WideShapes Go.ChangeAt Go.RowKit
open Go.ChangeMaps (open_string shut_string)

theorem list10 {α : Type} (l : List α) (h : l.length = 10) : ∃ c0 c1 c2 c3 c4 c5 c6 c7 c8 c9, l = [c0, c1, c2, c3, c4, c5, c6, c7, c8, c9] := by
  rcases l with _ | ⟨c0, l⟩
  · simp at h
  rcases l with _ | ⟨c1, l⟩
  · simp at h
  rcases l with _ | ⟨c2, l⟩
  · simp at h
  rcases l with _ | ⟨c3, l⟩
  · simp at h
  rcases l with _ | ⟨c4, l⟩
  · simp at h
  rcases l with _ | ⟨c5, l⟩
  · simp at h
  rcases l with _ | ⟨c6, l⟩
  · simp at h
  rcases l with _ | ⟨c7, l⟩
  · simp at h
  rcases l with _ | ⟨c8, l⟩
  · simp at h
  rcases l with _ | ⟨c9, l⟩
  · simp at h
  rcases l with _ | ⟨x, l⟩
  · exact ⟨c0, c1, c2, c3, c4, c5, c6, c7, c8, c9, rfl⟩
  · simp at h

section
variable {H : Type} {enc : TypeId × Value → H} {w : World} {base : Nat} {spare : Nat → Bool} {held : Bool}

set_option maxRecDepth 100000 in
/-- A format that came in, opened. -/
theorem open_fmt {r : Reach} {b0 : Nat} {v : Value} {d : DataW H} {p : List MemPlace} (hv : Value.okWide Try.prog w r b0 23 v) (h : DataW.Trod enc Try.prog w base spare held 23 v d p) :
    ∃ f : Fmt, v = fmtV f ∧ (f.rs ≤ 9223372036854775807 ∧ f.gs ≤ 9223372036854775807 ∧ f.bs ≤ 9223372036854775807) := by
  obtain ⟨cs, rfl, hsz⟩ := okWide_struct Try.underlying23 hv
  have hc : Try.prog.cellsOf 23 = 10 := by kernel_rfl
  obtain ⟨l⟩ := cs
  obtain ⟨c0, c1, c2, c3, c4, c5, c6, c7, c8, c9, rfl⟩ := list10 l (by simpa using hsz.trans hc)
  obtain ⟨fuel, hf⟩ := h
  obtain ⟨xs, n, _, _, _, hlen, hx⟩ := DataW.trod_struct Try.underlying23 hf
  have k3 : Try.prog.cellsOf 3 = 1 := by kernel_rfl
  have k4 : Try.prog.cellsOf 4 = 1 := by kernel_rfl
  have hl : xs.length = 10 := hlen
  have h0 := hx 0 _ rfl
  rw [List.getElem?_eq_getElem (show 0 < xs.length by omega)] at h0
  obtain ⟨n0, e0, _, w0⟩ := DataW.trod_int Try.underlying3 h0
  have g0 : [c0] = [.int .i64 n0] := by simpa [Value.cells, k3] using e0
  obtain rfl := List.head_eq_of_cons_eq g0
  have h1 := hx 1 _ rfl
  rw [List.getElem?_eq_getElem (show 1 < xs.length by omega)] at h1
  obtain ⟨n1, e1, _, w1⟩ := DataW.trod_int Try.underlying3 h1
  have g1 : [c1] = [.int .i64 n1] := by simpa [Value.cells, k3] using e1
  obtain rfl := List.head_eq_of_cons_eq g1
  have h2 := hx 2 _ rfl
  rw [List.getElem?_eq_getElem (show 2 < xs.length by omega)] at h2
  obtain ⟨n2, e2, _⟩ := DataW.trod_bool Try.underlying4 h2
  have g2 : [c2] = [.bool n2] := by simpa [Value.cells, k4] using e2
  obtain rfl := List.head_eq_of_cons_eq g2
  have h3 := hx 3 _ rfl
  rw [List.getElem?_eq_getElem (show 3 < xs.length by omega)] at h3
  obtain ⟨n3, e3, _⟩ := DataW.trod_bool Try.underlying4 h3
  have g3 : [c3] = [.bool n3] := by simpa [Value.cells, k4] using e3
  obtain rfl := List.head_eq_of_cons_eq g3
  have h4 := hx 4 _ rfl
  rw [List.getElem?_eq_getElem (show 4 < xs.length by omega)] at h4
  obtain ⟨n4, e4, _, w4⟩ := DataW.trod_int Try.underlying3 h4
  have g4 : [c4] = [.int .i64 n4] := by simpa [Value.cells, k3] using e4
  obtain rfl := List.head_eq_of_cons_eq g4
  have h5 := hx 5 _ rfl
  rw [List.getElem?_eq_getElem (show 5 < xs.length by omega)] at h5
  obtain ⟨n5, e5, _, w5⟩ := DataW.trod_int Try.underlying3 h5
  have g5 : [c5] = [.int .i64 n5] := by simpa [Value.cells, k3] using e5
  obtain rfl := List.head_eq_of_cons_eq g5
  have h6 := hx 6 _ rfl
  rw [List.getElem?_eq_getElem (show 6 < xs.length by omega)] at h6
  obtain ⟨n6, e6, _, w6⟩ := DataW.trod_int Try.underlying3 h6
  have g6 : [c6] = [.int .i64 n6] := by simpa [Value.cells, k3] using e6
  obtain rfl := List.head_eq_of_cons_eq g6
  have h7 := hx 7 _ rfl
  rw [List.getElem?_eq_getElem (show 7 < xs.length by omega)] at h7
  obtain ⟨n7, e7, _, w7⟩ := DataW.trod_int Try.underlying3 h7
  have g7 : [c7] = [.int .i64 n7] := by simpa [Value.cells, k3] using e7
  obtain rfl := List.head_eq_of_cons_eq g7
  have h8 := hx 8 _ rfl
  rw [List.getElem?_eq_getElem (show 8 < xs.length by omega)] at h8
  obtain ⟨n8, e8, _, w8⟩ := DataW.trod_int Try.underlying3 h8
  have g8 : [c8] = [.int .i64 n8] := by simpa [Value.cells, k3] using e8
  obtain rfl := List.head_eq_of_cons_eq g8
  have h9 := hx 9 _ rfl
  rw [List.getElem?_eq_getElem (show 9 < xs.length by omega)] at h9
  obtain ⟨n9, e9, _, w9⟩ := DataW.trod_int Try.underlying3 h9
  have g9 : [c9] = [.int .i64 n9] := by simpa [Value.cells, k3] using e9
  obtain rfl := List.head_eq_of_cons_eq g9
  exact ⟨⟨n0, n1, n2, n3, n4, n5, n6, n7, n8, n9⟩, rfl, (bounds_i64 w7).2, (bounds_i64 w8).2, (bounds_i64 w9).2⟩
end

end Go.Proofs.Ytodlpofpeoiedaa
