/-
  The rows of a start, a head and a message.
-/
import Derived.Test.YtodlpofpeoiedaaDU
import Derived.WalkKit
import Derived.ProofKit
import Derived.OpenShut
import Derived.ShutString
import Derived.ChangeOld
import Derived.Below
namespace Go.Proofs.Ytodlpofpeoiedaa
open Go.ChangeShapes Go.WideShapes Go.ChangeAt Go.RowKit
open Go.ChangeMaps (open_string shut_string)

theorem list13 {α : Type} (l : List α) (h : l.length = 13) : ∃ c0 c1 c2 c3 c4 c5 c6 c7 c8 c9 c10 c11 c12, l = [c0, c1, c2, c3, c4, c5, c6, c7, c8, c9, c10, c11, c12] := by
  rcases l with _ | ⟨c0, l⟩
  · simp at h
  rcases l with _ | ⟨c1, l⟩
  · simp at h
  rcases l with _ | ⟨c2, l⟩
  · simp at h
  rcases l with _ | ⟨c3, l⟩
  · simp at h
  rcases l with _ | ⟨c4, l⟩
  · simp at h
  rcases l with _ | ⟨c5, l⟩
  · simp at h
  rcases l with _ | ⟨c6, l⟩
  · simp at h
  rcases l with _ | ⟨c7, l⟩
  · simp at h
  rcases l with _ | ⟨c8, l⟩
  · simp at h
  rcases l with _ | ⟨c9, l⟩
  · simp at h
  rcases l with _ | ⟨c10, l⟩
  · simp at h
  rcases l with _ | ⟨c11, l⟩
  · simp at h
  rcases l with _ | ⟨c12, l⟩
  · simp at h
  rcases l with _ | ⟨_, l⟩
  · exact ⟨_, _, _, _, _, _, _, _, _, _, _, _, _, rfl⟩
  · simp at h

theorem list5 {α : Type} (l : List α) (h : l.length = 5) : ∃ c0 c1 c2 c3 c4, l = [c0, c1, c2, c3, c4] := by
  rcases l with _ | ⟨c0, l⟩
  · simp at h
  rcases l with _ | ⟨c1, l⟩
  · simp at h
  rcases l with _ | ⟨c2, l⟩
  · simp at h
  rcases l with _ | ⟨c3, l⟩
  · simp at h
  rcases l with _ | ⟨c4, l⟩
  · simp at h
  rcases l with _ | ⟨_, l⟩
  · exact ⟨_, _, _, _, _, rfl⟩
  · simp at h

theorem list19 {α : Type} (l : List α) (h : l.length = 19) : ∃ c0 c1 c2 c3 c4 c5 c6 c7 c8 c9 c10 c11 c12 c13 c14 c15 c16 c17 c18, l = [c0, c1, c2, c3, c4, c5, c6, c7, c8, c9, c10, c11, c12, c13, c14, c15, c16, c17, c18] := by
  rcases l with _ | ⟨c0, l⟩
  · simp at h
  rcases l with _ | ⟨c1, l⟩
  · simp at h
  rcases l with _ | ⟨c2, l⟩
  · simp at h
  rcases l with _ | ⟨c3, l⟩
  · simp at h
  rcases l with _ | ⟨c4, l⟩
  · simp at h
  rcases l with _ | ⟨c5, l⟩
  · simp at h
  rcases l with _ | ⟨c6, l⟩
  · simp at h
  rcases l with _ | ⟨c7, l⟩
  · simp at h
  rcases l with _ | ⟨c8, l⟩
  · simp at h
  rcases l with _ | ⟨c9, l⟩
  · simp at h
  rcases l with _ | ⟨c10, l⟩
  · simp at h
  rcases l with _ | ⟨c11, l⟩
  · simp at h
  rcases l with _ | ⟨c12, l⟩
  · simp at h
  rcases l with _ | ⟨c13, l⟩
  · simp at h
  rcases l with _ | ⟨c14, l⟩
  · simp at h
  rcases l with _ | ⟨c15, l⟩
  · simp at h
  rcases l with _ | ⟨c16, l⟩
  · simp at h
  rcases l with _ | ⟨c17, l⟩
  · simp at h
  rcases l with _ | ⟨c18, l⟩
  · simp at h
  rcases l with _ | ⟨_, l⟩
  · exact ⟨_, _, _, _, _, _, _, _, _, _, _, _, _, _, _, _, _, _, _, rfl⟩
  · simp at h

section
variable {H : Type} {enc : TypeId × Value → H} {w : World} {base : Nat} {spare : Nat → Bool} {held : Bool}
set_option maxHeartbeats 1000000 in
set_option maxRecDepth 100000 in
theorem open_start {r : Reach} {b0 : Nat} {v : Value} {d : DataW H} {p : List MemPlace} (hv : Value.okWide Try.prog w r b0 58 v) (h : DataW.Trod enc Try.prog w base spare held 58 v d p) :
    ∃ x y f nm, v = .agg (staC x y f nm) ∧ Fmt.fit f := by
  obtain ⟨cs, rfl, hsz⟩ := okWide_struct Try.underlying58 hv
  have hc : Try.prog.cellsOf 58 = 13 := by kernel_rfl
  obtain ⟨l⟩ := cs
  obtain ⟨c0, c1, c2, c3, c4, c5, c6, c7, c8, c9, c10, c11, c12, rfl⟩ := list13 l (by simpa using hsz.trans hc)
  obtain ⟨fuel, hf⟩ := h
  have k3 : Try.prog.cellsOf 3 = 1 := by kernel_rfl
  have k4 : Try.prog.cellsOf 4 = 1 := by kernel_rfl
  have k9 : Try.prog.cellsOf 9 = 1 := by kernel_rfl
  have k23 : Try.prog.cellsOf 23 = 10 := by kernel_rfl
  obtain ⟨xs_58, n_58, _, _, _, hlen_58, hx_58⟩ := DataW.trod_struct Try.underlying58 hf
  have hl_58 : xs_58.length = 4 := hlen_58
  have h_58_0 := hx_58 0 _ rfl
  rw [List.getElem?_eq_getElem (show 0 < xs_58.length by omega)] at h_58_0
  obtain ⟨v0, e0, _, _⟩ := DataW.trod_int Try.underlying3 h_58_0
  have g0 : [c0] = [.int .i64 v0] := by simpa [Value.cells, k3] using e0
  obtain rfl := List.head_eq_of_cons_eq g0
  have h_58_1 := hx_58 1 _ rfl
  rw [List.getElem?_eq_getElem (show 1 < xs_58.length by omega)] at h_58_1
  obtain ⟨v1, e1, _, _⟩ := DataW.trod_int Try.underlying3 h_58_1
  have g1 : [c1] = [.int .i64 v1] := by simpa [Value.cells, k3] using e1
  obtain rfl := List.head_eq_of_cons_eq g1
  have h_58_2 := hx_58 2 _ rfl
  rw [List.getElem?_eq_getElem (show 2 < xs_58.length by omega)] at h_58_2
  obtain ⟨xs_58_2, n_58_2, _, _, _, hlen_58_2, hx_58_2⟩ := DataW.trod_struct Try.underlying23 h_58_2
  have hl_58_2 : xs_58_2.length = 10 := hlen_58_2
  have h_58_2_0 := hx_58_2 0 _ rfl
  rw [List.getElem?_eq_getElem (show 0 < xs_58_2.length by omega)] at h_58_2_0
  obtain ⟨v2, e2, _, _⟩ := DataW.trod_int Try.underlying3 h_58_2_0
  have g2 : [c2] = [.int .i64 v2] := by simpa [Value.cells, k23, k3] using e2
  obtain rfl := List.head_eq_of_cons_eq g2
  have h_58_2_1 := hx_58_2 1 _ rfl
  rw [List.getElem?_eq_getElem (show 1 < xs_58_2.length by omega)] at h_58_2_1
  obtain ⟨v3, e3, _, _⟩ := DataW.trod_int Try.underlying3 h_58_2_1
  have g3 : [c3] = [.int .i64 v3] := by simpa [Value.cells, k23, k3] using e3
  obtain rfl := List.head_eq_of_cons_eq g3
  have h_58_2_2 := hx_58_2 2 _ rfl
  rw [List.getElem?_eq_getElem (show 2 < xs_58_2.length by omega)] at h_58_2_2
  obtain ⟨v4, e4, _⟩ := DataW.trod_bool Try.underlying4 h_58_2_2
  have g4 : [c4] = [.bool v4] := by simpa [Value.cells, k23, k4] using e4
  obtain rfl := List.head_eq_of_cons_eq g4
  have h_58_2_3 := hx_58_2 3 _ rfl
  rw [List.getElem?_eq_getElem (show 3 < xs_58_2.length by omega)] at h_58_2_3
  obtain ⟨v5, e5, _⟩ := DataW.trod_bool Try.underlying4 h_58_2_3
  have g5 : [c5] = [.bool v5] := by simpa [Value.cells, k23, k4] using e5
  obtain rfl := List.head_eq_of_cons_eq g5
  have h_58_2_4 := hx_58_2 4 _ rfl
  rw [List.getElem?_eq_getElem (show 4 < xs_58_2.length by omega)] at h_58_2_4
  obtain ⟨v6, e6, _, _⟩ := DataW.trod_int Try.underlying3 h_58_2_4
  have g6 : [c6] = [.int .i64 v6] := by simpa [Value.cells, k23, k3] using e6
  obtain rfl := List.head_eq_of_cons_eq g6
  have h_58_2_5 := hx_58_2 5 _ rfl
  rw [List.getElem?_eq_getElem (show 5 < xs_58_2.length by omega)] at h_58_2_5
  obtain ⟨v7, e7, _, _⟩ := DataW.trod_int Try.underlying3 h_58_2_5
  have g7 : [c7] = [.int .i64 v7] := by simpa [Value.cells, k23, k3] using e7
  obtain rfl := List.head_eq_of_cons_eq g7
  have h_58_2_6 := hx_58_2 6 _ rfl
  rw [List.getElem?_eq_getElem (show 6 < xs_58_2.length by omega)] at h_58_2_6
  obtain ⟨v8, e8, _, _⟩ := DataW.trod_int Try.underlying3 h_58_2_6
  have g8 : [c8] = [.int .i64 v8] := by simpa [Value.cells, k23, k3] using e8
  obtain rfl := List.head_eq_of_cons_eq g8
  have h_58_2_7 := hx_58_2 7 _ rfl
  rw [List.getElem?_eq_getElem (show 7 < xs_58_2.length by omega)] at h_58_2_7
  obtain ⟨v9, e9, _, wd9⟩ := DataW.trod_int Try.underlying3 h_58_2_7
  have g9 : [c9] = [.int .i64 v9] := by simpa [Value.cells, k23, k3] using e9
  obtain rfl := List.head_eq_of_cons_eq g9
  have h_58_2_8 := hx_58_2 8 _ rfl
  rw [List.getElem?_eq_getElem (show 8 < xs_58_2.length by omega)] at h_58_2_8
  obtain ⟨v10, e10, _, wd10⟩ := DataW.trod_int Try.underlying3 h_58_2_8
  have g10 : [c10] = [.int .i64 v10] := by simpa [Value.cells, k23, k3] using e10
  obtain rfl := List.head_eq_of_cons_eq g10
  have h_58_2_9 := hx_58_2 9 _ rfl
  rw [List.getElem?_eq_getElem (show 9 < xs_58_2.length by omega)] at h_58_2_9
  obtain ⟨v11, e11, _, wd11⟩ := DataW.trod_int Try.underlying3 h_58_2_9
  have g11 : [c11] = [.int .i64 v11] := by simpa [Value.cells, k23, k3] using e11
  obtain rfl := List.head_eq_of_cons_eq g11
  have h_58_3 := hx_58 3 _ rfl
  rw [List.getElem?_eq_getElem (show 3 < xs_58.length by omega)] at h_58_3
  obtain ⟨v12, e12, _, _⟩ := DataW.trod_string Try.underlying9 h_58_3
  have g12 : [c12] = [.string v12] := by simpa [Value.cells, k9] using e12
  obtain rfl := List.head_eq_of_cons_eq g12
  exact ⟨v0, v1, ⟨v2, v3, v4, v5, v6, v7, v8, v9, v10, v11⟩, v12, rfl, (bounds_i64 wd9).2, (bounds_i64 wd10).2, (bounds_i64 wd11).2⟩

set_option maxHeartbeats 1000000 in
set_option maxRecDepth 100000 in
theorem open_head {r : Reach} {b0 : Nat} {v : Value} {d : DataW H} {p : List MemPlace} (hv : Value.okWide Try.prog w r b0 62 v) (h : DataW.Trod enc Try.prog w base spare held 62 v d p) :
    ∃ x y a b e : Int, v = .agg #[.int .i64 x, .int .i64 y, .int .i64 a, .int .i64 b, .int .i64 e] := by
  obtain ⟨cs, rfl, hsz⟩ := okWide_struct Try.underlying62 hv
  have hc : Try.prog.cellsOf 62 = 5 := by kernel_rfl
  obtain ⟨l⟩ := cs
  obtain ⟨c0, c1, c2, c3, c4, rfl⟩ := list5 l (by simpa using hsz.trans hc)
  obtain ⟨fuel, hf⟩ := h
  have k3 : Try.prog.cellsOf 3 = 1 := by kernel_rfl
  have k60 : Try.prog.cellsOf 60 = 4 := by kernel_rfl
  obtain ⟨xs_62, n_62, _, _, _, hlen_62, hx_62⟩ := DataW.trod_struct Try.underlying62 hf
  have hl_62 : xs_62.length = 2 := hlen_62
  have h_62_0 := hx_62 0 _ rfl
  rw [List.getElem?_eq_getElem (show 0 < xs_62.length by omega)] at h_62_0
  obtain ⟨xs_62_0, n_62_0, _, _, _, hlen_62_0, hx_62_0⟩ := DataW.trod_struct Try.underlying60 h_62_0
  have hl_62_0 : xs_62_0.length = 4 := hlen_62_0
  have h_62_0_0 := hx_62_0 0 _ rfl
  rw [List.getElem?_eq_getElem (show 0 < xs_62_0.length by omega)] at h_62_0_0
  obtain ⟨v0, e0, _, _⟩ := DataW.trod_int Try.underlying3 h_62_0_0
  have g0 : [c0] = [.int .i64 v0] := by simpa [Value.cells, k60, k3] using e0
  obtain rfl := List.head_eq_of_cons_eq g0
  have h_62_0_1 := hx_62_0 1 _ rfl
  rw [List.getElem?_eq_getElem (show 1 < xs_62_0.length by omega)] at h_62_0_1
  obtain ⟨v1, e1, _, _⟩ := DataW.trod_int Try.underlying3 h_62_0_1
  have g1 : [c1] = [.int .i64 v1] := by simpa [Value.cells, k60, k3] using e1
  obtain rfl := List.head_eq_of_cons_eq g1
  have h_62_0_2 := hx_62_0 2 _ rfl
  rw [List.getElem?_eq_getElem (show 2 < xs_62_0.length by omega)] at h_62_0_2
  obtain ⟨v2, e2, _, _⟩ := DataW.trod_int Try.underlying3 h_62_0_2
  have g2 : [c2] = [.int .i64 v2] := by simpa [Value.cells, k60, k3] using e2
  obtain rfl := List.head_eq_of_cons_eq g2
  have h_62_0_3 := hx_62_0 3 _ rfl
  rw [List.getElem?_eq_getElem (show 3 < xs_62_0.length by omega)] at h_62_0_3
  obtain ⟨v3, e3, _, _⟩ := DataW.trod_int Try.underlying3 h_62_0_3
  have g3 : [c3] = [.int .i64 v3] := by simpa [Value.cells, k60, k3] using e3
  obtain rfl := List.head_eq_of_cons_eq g3
  have h_62_1 := hx_62 1 _ rfl
  rw [List.getElem?_eq_getElem (show 1 < xs_62.length by omega)] at h_62_1
  obtain ⟨v4, e4, _, _⟩ := DataW.trod_int Try.underlying3 h_62_1
  have g4 : [c4] = [.int .i64 v4] := by simpa [Value.cells, k3] using e4
  obtain rfl := List.head_eq_of_cons_eq g4
  exact ⟨v0, v1, v2, v3, v4, rfl⟩

set_option maxHeartbeats 1000000 in
set_option maxRecDepth 100000 in
theorem open_msg {r : Reach} {b0 : Nat} {v : Value} {d : DataW H} {p : List MemPlace} (hv : Value.okWide Try.prog w r b0 65 v) (h : DataW.Trod enc Try.prog w base spare held 65 v d p) :
    ∃ kd fl n a b c d f en t, v = .agg (msgC kd fl n a b c d f en t) := by
  obtain ⟨cs, rfl, hsz⟩ := okWide_struct Try.underlying65 hv
  have hc : Try.prog.cellsOf 65 = 19 := by kernel_rfl
  obtain ⟨l⟩ := cs
  obtain ⟨c0, c1, c2, c3, c4, c5, c6, c7, c8, c9, c10, c11, c12, c13, c14, c15, c16, c17, c18, rfl⟩ := list19 l (by simpa using hsz.trans hc)
  obtain ⟨fuel, hf⟩ := h
  have k3 : Try.prog.cellsOf 3 = 1 := by kernel_rfl
  have k4 : Try.prog.cellsOf 4 = 1 := by kernel_rfl
  have k9 : Try.prog.cellsOf 9 = 1 := by kernel_rfl
  have k23 : Try.prog.cellsOf 23 = 10 := by kernel_rfl
  have k60 : Try.prog.cellsOf 60 = 4 := by kernel_rfl
  have k63 : Try.prog.cellsOf 63 = 1 := by kernel_rfl
  obtain ⟨xs_65, n_65, _, _, _, hlen_65, hx_65⟩ := DataW.trod_struct Try.underlying65 hf
  have hl_65 : xs_65.length = 7 := hlen_65
  have h_65_0 := hx_65 0 _ rfl
  rw [List.getElem?_eq_getElem (show 0 < xs_65.length by omega)] at h_65_0
  obtain ⟨v0, e0, _, _⟩ := DataW.trod_int Try.underlying63 h_65_0
  have g0 : [c0] = [.int .i64 v0] := by simpa [Value.cells, k63] using e0
  obtain rfl := List.head_eq_of_cons_eq g0
  have h_65_1 := hx_65 1 _ rfl
  rw [List.getElem?_eq_getElem (show 1 < xs_65.length by omega)] at h_65_1
  obtain ⟨v1, e1, _⟩ := DataW.trod_bool Try.underlying4 h_65_1
  have g1 : [c1] = [.bool v1] := by simpa [Value.cells, k4] using e1
  obtain rfl := List.head_eq_of_cons_eq g1
  have h_65_2 := hx_65 2 _ rfl
  rw [List.getElem?_eq_getElem (show 2 < xs_65.length by omega)] at h_65_2
  obtain ⟨v2, e2, _, _⟩ := DataW.trod_int Try.underlying3 h_65_2
  have g2 : [c2] = [.int .i64 v2] := by simpa [Value.cells, k3] using e2
  obtain rfl := List.head_eq_of_cons_eq g2
  have h_65_3 := hx_65 3 _ rfl
  rw [List.getElem?_eq_getElem (show 3 < xs_65.length by omega)] at h_65_3
  obtain ⟨xs_65_3, n_65_3, _, _, _, hlen_65_3, hx_65_3⟩ := DataW.trod_struct Try.underlying60 h_65_3
  have hl_65_3 : xs_65_3.length = 4 := hlen_65_3
  have h_65_3_0 := hx_65_3 0 _ rfl
  rw [List.getElem?_eq_getElem (show 0 < xs_65_3.length by omega)] at h_65_3_0
  obtain ⟨v3, e3, _, _⟩ := DataW.trod_int Try.underlying3 h_65_3_0
  have g3 : [c3] = [.int .i64 v3] := by simpa [Value.cells, k60, k3] using e3
  obtain rfl := List.head_eq_of_cons_eq g3
  have h_65_3_1 := hx_65_3 1 _ rfl
  rw [List.getElem?_eq_getElem (show 1 < xs_65_3.length by omega)] at h_65_3_1
  obtain ⟨v4, e4, _, _⟩ := DataW.trod_int Try.underlying3 h_65_3_1
  have g4 : [c4] = [.int .i64 v4] := by simpa [Value.cells, k60, k3] using e4
  obtain rfl := List.head_eq_of_cons_eq g4
  have h_65_3_2 := hx_65_3 2 _ rfl
  rw [List.getElem?_eq_getElem (show 2 < xs_65_3.length by omega)] at h_65_3_2
  obtain ⟨v5, e5, _, _⟩ := DataW.trod_int Try.underlying3 h_65_3_2
  have g5 : [c5] = [.int .i64 v5] := by simpa [Value.cells, k60, k3] using e5
  obtain rfl := List.head_eq_of_cons_eq g5
  have h_65_3_3 := hx_65_3 3 _ rfl
  rw [List.getElem?_eq_getElem (show 3 < xs_65_3.length by omega)] at h_65_3_3
  obtain ⟨v6, e6, _, _⟩ := DataW.trod_int Try.underlying3 h_65_3_3
  have g6 : [c6] = [.int .i64 v6] := by simpa [Value.cells, k60, k3] using e6
  obtain rfl := List.head_eq_of_cons_eq g6
  have h_65_4 := hx_65 4 _ rfl
  rw [List.getElem?_eq_getElem (show 4 < xs_65.length by omega)] at h_65_4
  obtain ⟨xs_65_4, n_65_4, _, _, _, hlen_65_4, hx_65_4⟩ := DataW.trod_struct Try.underlying23 h_65_4
  have hl_65_4 : xs_65_4.length = 10 := hlen_65_4
  have h_65_4_0 := hx_65_4 0 _ rfl
  rw [List.getElem?_eq_getElem (show 0 < xs_65_4.length by omega)] at h_65_4_0
  obtain ⟨v7, e7, _, _⟩ := DataW.trod_int Try.underlying3 h_65_4_0
  have g7 : [c7] = [.int .i64 v7] := by simpa [Value.cells, k23, k3] using e7
  obtain rfl := List.head_eq_of_cons_eq g7
  have h_65_4_1 := hx_65_4 1 _ rfl
  rw [List.getElem?_eq_getElem (show 1 < xs_65_4.length by omega)] at h_65_4_1
  obtain ⟨v8, e8, _, _⟩ := DataW.trod_int Try.underlying3 h_65_4_1
  have g8 : [c8] = [.int .i64 v8] := by simpa [Value.cells, k23, k3] using e8
  obtain rfl := List.head_eq_of_cons_eq g8
  have h_65_4_2 := hx_65_4 2 _ rfl
  rw [List.getElem?_eq_getElem (show 2 < xs_65_4.length by omega)] at h_65_4_2
  obtain ⟨v9, e9, _⟩ := DataW.trod_bool Try.underlying4 h_65_4_2
  have g9 : [c9] = [.bool v9] := by simpa [Value.cells, k23, k4] using e9
  obtain rfl := List.head_eq_of_cons_eq g9
  have h_65_4_3 := hx_65_4 3 _ rfl
  rw [List.getElem?_eq_getElem (show 3 < xs_65_4.length by omega)] at h_65_4_3
  obtain ⟨v10, e10, _⟩ := DataW.trod_bool Try.underlying4 h_65_4_3
  have g10 : [c10] = [.bool v10] := by simpa [Value.cells, k23, k4] using e10
  obtain rfl := List.head_eq_of_cons_eq g10
  have h_65_4_4 := hx_65_4 4 _ rfl
  rw [List.getElem?_eq_getElem (show 4 < xs_65_4.length by omega)] at h_65_4_4
  obtain ⟨v11, e11, _, _⟩ := DataW.trod_int Try.underlying3 h_65_4_4
  have g11 : [c11] = [.int .i64 v11] := by simpa [Value.cells, k23, k3] using e11
  obtain rfl := List.head_eq_of_cons_eq g11
  have h_65_4_5 := hx_65_4 5 _ rfl
  rw [List.getElem?_eq_getElem (show 5 < xs_65_4.length by omega)] at h_65_4_5
  obtain ⟨v12, e12, _, _⟩ := DataW.trod_int Try.underlying3 h_65_4_5
  have g12 : [c12] = [.int .i64 v12] := by simpa [Value.cells, k23, k3] using e12
  obtain rfl := List.head_eq_of_cons_eq g12
  have h_65_4_6 := hx_65_4 6 _ rfl
  rw [List.getElem?_eq_getElem (show 6 < xs_65_4.length by omega)] at h_65_4_6
  obtain ⟨v13, e13, _, _⟩ := DataW.trod_int Try.underlying3 h_65_4_6
  have g13 : [c13] = [.int .i64 v13] := by simpa [Value.cells, k23, k3] using e13
  obtain rfl := List.head_eq_of_cons_eq g13
  have h_65_4_7 := hx_65_4 7 _ rfl
  rw [List.getElem?_eq_getElem (show 7 < xs_65_4.length by omega)] at h_65_4_7
  obtain ⟨v14, e14, _, _⟩ := DataW.trod_int Try.underlying3 h_65_4_7
  have g14 : [c14] = [.int .i64 v14] := by simpa [Value.cells, k23, k3] using e14
  obtain rfl := List.head_eq_of_cons_eq g14
  have h_65_4_8 := hx_65_4 8 _ rfl
  rw [List.getElem?_eq_getElem (show 8 < xs_65_4.length by omega)] at h_65_4_8
  obtain ⟨v15, e15, _, _⟩ := DataW.trod_int Try.underlying3 h_65_4_8
  have g15 : [c15] = [.int .i64 v15] := by simpa [Value.cells, k23, k3] using e15
  obtain rfl := List.head_eq_of_cons_eq g15
  have h_65_4_9 := hx_65_4 9 _ rfl
  rw [List.getElem?_eq_getElem (show 9 < xs_65_4.length by omega)] at h_65_4_9
  obtain ⟨v16, e16, _, _⟩ := DataW.trod_int Try.underlying3 h_65_4_9
  have g16 : [c16] = [.int .i64 v16] := by simpa [Value.cells, k23, k3] using e16
  obtain rfl := List.head_eq_of_cons_eq g16
  have h_65_6 := hx_65 6 _ rfl
  rw [List.getElem?_eq_getElem (show 6 < xs_65.length by omega)] at h_65_6
  obtain ⟨v18, e18, _, _⟩ := DataW.trod_string Try.underlying9 h_65_6
  have g18 : [c18] = [.string v18] := by simpa [Value.cells, k9] using e18
  obtain rfl := List.head_eq_of_cons_eq g18
  exact ⟨v0, v1, v2, v3, v4, v5, v6, ⟨v7, v8, v9, v10, v11, v12, v13, v14, v15, v16⟩, c17, v18, rfl⟩

end

end Go.Proofs.Ytodlpofpeoiedaa
