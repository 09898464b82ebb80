/-
  The format of sixteen bytes: plain words, and steps of a cursor.
-/
import Derived.Test.YtodlpofpeoiedaaN2
import Derived.Laws.ResultCell
namespace Go.Proofs.Ytodlpofpeoiedaa
open Go.RowKit

def byteV (s : ByteArray) (i : Nat) : Int := beV (s.extract i (i + 1)).data.toList
def wordV (s : ByteArray) (i : Nat) : Int := beV (s.extract i (i + 2)).data.toList

/-- What sixteen bytes say. -/
def rawF (s : ByteArray) : Fmt := ⟨byteV s 0, byteV s 1, byteV s 2 != 0, byteV s 3 != 0, wordV s 4, wordV s 6, wordV s 8, byteV s 10, byteV s 11, byteV s 12⟩
def zeroF : Fmt := ⟨0, 0, false, false, 0, 0, 0, 0, 0, 0⟩
/-- A format of bytes, and the error. -/
def parseE (s : ByteArray) : Int := if s.size < 16 then 2 else if validB (rawF s) then 0 else 130
def parseF (s : ByteArray) : Fmt := if parseE s = 0 then rawF s else zeroF

/-! ### steps of a cursor -/
def Cu.run (c : Cu) (l : List Nat) : Cu := l.foldl Cu.bytes c

theorem Cu.run_fail : ∀ (l : List Nat) (c : Cu), c.e ≠ 0 → (c.run l).e = c.e
  | [], _, _ => rfl
  | n :: l, c, h => by
    have hf : ¬ c.fits n = true := by simp [Cu.fits, h]
    have e1 : (c.bytes n).e = c.e := by rw [Cu.bytes_no hf]; exact err2_1 2 h
    show ((c.bytes n).run l).e = c.e
    rw [Cu.run_fail l (c.bytes n) (by rw [e1]; exact h), e1]

theorem Cu.run_short : ∀ (l : List Nat) (c : Cu), c.e = 0 → c.s.size - c.i < l.sum → (c.run l).e = 2
  | [], c, _, h => by simp at h
  | n :: l, c, he, h => by
    show ((c.bytes n).run l).e = 2
    by_cases hf : c.fits n = true
    · rw [Cu.bytes_yes hf]
      refine Cu.run_short l _ rfl ?_
      simp only [Cu.fits, Bool.and_eq_true, beq_iff_eq, decide_eq_true_eq] at hf
      simp only [List.sum_cons] at h
      show c.s.size - (c.i + n) < l.sum
      omega
    · have e1 : (c.bytes n).e = 2 := by rw [Cu.bytes_no hf]; exact err2_0 2 he
      rw [Cu.run_fail l (c.bytes n) (by rw [e1]; decide), e1]

theorem Cu.step {s : ByteArray} {i n : Nat} (h : i + n ≤ s.size) : (⟨s, i, 0⟩ : Cu).bytes n = ⟨s, i + n, 0⟩ ∧ (⟨s, i, 0⟩ : Cu).out n = s.extract i (i + n) ∧ (⟨s, i, 0⟩ : Cu).int n = beV (s.extract i (i + n)).data.toList := by
  have hf : (⟨s, i, 0⟩ : Cu).fits n = true := by simp [Cu.fits]; omega
  refine ⟨Cu.bytes_yes hf, Cu.out_yes hf, ?_⟩
  unfold Cu.int
  rw [Cu.out_yes hf]

theorem IsCur.other {T b : Nat} {c : Cu} {w : World} (h : IsCur T b c w) {p : Addr} (hp : b ≠ p.block) (v : Value) : IsCur T b c (w.setCell p v) := (Below.heap_setCell w p v b hp).trans h

theorem IsCur.alloc {T b : Nat} {c : Cu} {w : World} (h : IsCur T b c w) (o : Obj) : IsCur T b c (w.alloc o) := h.keep ((Below.refl _ _).alloc (Nat.le_refl _) _)

/-- A block known whole. -/
def Blk (b t : Nat) (C : Array Value) (w : World) : Prop := w.heap[b]? = some (.cells C t (0, 0))
theorem Blk.cell {b t : Nat} {C : Array Value} {w : World} (h : Blk b t C w) (j : Nat) : w.cell? ⟨b, j, none⟩ = C[j]? := by unfold Blk at h; simp [World.cell?, h]
theorem Blk.fr {b t : Nat} {C : Array Value} {w : World} (h : Blk b t C w) (j : Nat) : w.frozen? ⟨b, j, none⟩ = false := by unfold Blk at h; simp [World.frozen?, h]
theorem Blk.lt {b t : Nat} {C : Array Value} {w : World} (h : Blk b t C w) : b < w.heap.size := by
  rcases Nat.lt_or_ge b w.heap.size with h' | h'
  · exact h'
  · unfold Blk at h; simp [Array.getElem?_eq_none h'] at h
theorem Blk.new (w : World) (t : Nat) (C : Array Value) : Blk w.heap.size t C (w.alloc (.cells C t)) := heap_alloc_new w _
theorem Blk.alloc {b t : Nat} {C : Array Value} {w : World} (h : Blk b t C w) (o : Obj) : Blk b t C (w.alloc o) := (Below.heap_alloc w o b h.lt).trans h
theorem Blk.only {b t c : Nat} {C : Array Value} {w w' : World} (h : Blk b t C w) (ho : Only c w w') (hne : b ≠ c) : Blk b t C w' := (ho.block b h.lt (fun e => hne (by injection e))).trans h
theorem Blk.below {b t : Nat} {C : Array Value} {w w' : World} (h : Blk b t C w) (ho : Below w.heap.size w w') : Blk b t C w' := (ho.block b h.lt).trans h
theorem Blk.set {b t : Nat} {C : Array Value} {w : World} (h : Blk b t C w) (j : Nat) (v : Value) : Blk b t (C.setIfInBounds j v) (w.setCell ⟨b, j, none⟩ v) := set_block h j v
theorem Blk.drewN {b t : Nat} {C : Array Value} {w : World} (h : Blk b t C w) (n : Nat) : Blk b t C (w.drewN n) := h
theorem Blk.other {b t : Nat} {C : Array Value} {w : World} (h : Blk b t C w) {p : Addr} (hp : b ≠ p.block) (v : Value) : Blk b t C (w.setCell p v) := (Below.heap_setCell w p v b hp).trans h

/-- A result that lies in a block known whole, and a second one. -/
theorem results_at {P : Program} {fn : Func} {p u : Tmp} {ty b t : Nat} {C : Array Value} {W : World} {d : TypeDesc} (h : fn.results = #[.cell p ty, .tmp u]) (tmps : Array Value) (hp : tmps.getD p undef = .pointer (some ⟨b, 0, none⟩)) (hB : Blk b t C W)
    (hu : P.underlying ty = some d) (hd : (match d with | .struct _ | .array _ _ => true | _ => false) = true) (hi : (P.info? ty).map (·.size) = some C.size) :
    (results fn tmps).run P W = .ok (.tuple #[.agg C, tmps.getD u undef]) W := by
  rw [results_cell_tmp h, hp]
  have := run_loadVar_row W b t ty C (0, 0) d hB hu hd hi
  simp [asAddr, Result.andThen, this]

end Go.Proofs.Ytodlpofpeoiedaa
