/-
  plain.values: colours' values, one after the other (a function to range over), after the kit's worked text on slices' iterators.
-/
import Derived.RangeFuncBox
import Derived.RangeFuncNested
import Derived.RangeFuncBound
import Derived.RangeFuncCalls
import Derived.RangeFuncLeaves
import Derived.Shelf.Abstract
import Derived.Shelf.RegionOpen
import Derived.OwnWalkIn
import Derived.TacticsInMore
import Derived.LoopNIn
import Derived.LoopIn
import Derived.Test.YtodlpofpeoiedaaMH
import Derived.Lib.FrozenHead2
import Derived.Lib.OthersKept
import Derived.Lib.UnsafeStr
import Derived.RangeFuncWrites
import Derived.Maps.AppendAt
import Derived.Test.YtodlpofpeoiedaaMF
namespace Go.Proofs.Ytodlpofpeoiedaa
open Go.RowKit Go.Shelf Go.Sort

attribute [local go_sem] Oper.semAt_some

/-- What has come when k rounds are over. -/
def upto {α : Type} (f : Nat → α) (k : Nat) : List α := (List.range k).map f
theorem upto_succ {α : Type} (f : Nat → α) (k : Nat) : upto f (k + 1) = upto f k ++ [f k] := by simp [upto, List.range_succ]
theorem upto_length {α : Type} (f : Nat → α) (k : Nat) : (upto f k).length = k := by simp [upto]

/-- What a round must keep: what lay below n₀, and one block more (the format's box). -/
def KeepB (n₀ k : Nat) (W W' : World) : Prop := Below n₀ W W' ∧ W'.heap[k]? = W.heap[k]?
theorem KeepB.refl (n₀ k : Nat) (W : World) : KeepB n₀ k W W := ⟨Below.refl _ _, rfl⟩
theorem KeepB.trans {n₀ k : Nat} {A B C : World} (h : KeepB n₀ k A B) (g : KeepB n₀ k B C) : KeepB n₀ k A C := ⟨h.1.trans g.1, g.2.trans h.2⟩
theorem KeepB.of {n₀ k : Nat} {A B : World} (h : Below A.heap.size A B) (h1 : n₀ ≤ A.heap.size) (h2 : k < A.heap.size) : KeepB n₀ k A B := ⟨h.mono h1, h.block k h2⟩

set_option maxRecDepth 100000 in
set_option maxHeartbeats 2000000 in
theorem values1_in (F : Fence) (n : Nat) (h134 : F.fn 134) (h39 : F.fn 39) (hro : F.round = none) (hn : 1 ≤ n) (l Bs Bf n₀ b off len cap : Nat) (f : Fmt) (zs : List Int) (u : Nat → Int) (hreach : len * 8 ≤ 140737488351232) (hb : b < n₀) (J Jx : List Int → World → Prop)
    (K39 : Hid (∀ j, j < len → ∀ w, CallsIn F (n - 1) Try.prog 39 #[fmtV f, .int .i64 (zs[j]?.getD 0)] w fun e w' => e = .returned (.int .i64 (u j)) ∧ Below w.heap.size w w'))
    (hJb : ∀ pre W W', J pre W → Below W.heap.size W W' → J pre W')
    (hY : ∀ pre x W, J pre W → pre.length < len → YieldAt F (n - 1) Try.prog l #[.int .i64 x] W fun e W' =>
      (e = .returned (.bool true) ∧ J (pre ++ [x]) W' ∧ KeepB n₀ Bf W W') ∨ (e = .returned (.bool false) ∧ Jx (pre ++ [x]) W'))
    (W : World) (hn₀ : n₀ ≤ W.heap.size) (hBs : W.cell? ⟨Bs, 0, none⟩ = some (.slice (some ⟨b, off, none⟩) len cap)) (hF : Blk Bf 23 #[.int .i64 f.bits, .int .i64 f.depth, .bool f.big, .bool f.tru, .int .i64 f.rm, .int .i64 f.gm, .int .i64 f.bm, .int .i64 f.rs, .int .i64 f.gs, .int .i64 f.bs] W)
    (hc : ∀ j, j < len → W.cell? ⟨b, off + j, none⟩ = some (.int .i64 (zs[j]?.getD 0))) (h0 : J [] W) :
    CallsIn F n Try.prog 134 #[.func (.yield l) #[] #[], .pointer (some ⟨Bs, 0, none⟩), .pointer (some ⟨Bf, 0, none⟩)] W fun e W' => (∃ v, e = .returned v) ∧
      ((∃ ys, ys = upto u len ∧ J ys W') ∨ (∃ pre, (∃ k, k ≤ len ∧ pre = upto u k) ∧ Jx pre W')) := by
  refine callsIn_of_wp Try.func134 rfl h134 ?_ hro
  simp only [Try.ntmps134, List.size_toArray, List.length_cons, List.length_nil, Nat.reduceAdd, Nat.reduceSub, Array.replicate_succ, Array.replicate_zero, List.push_toArray, List.append_toArray, List.nil_append, List.cons_append]
  gi_wp2
  gi_loopw [8] (fun i wr => ∃ k : Nat, k ≤ len ∧ i = .int .i64 k ∧ J (upto u k) wr ∧ KeepB n₀ Bf W wr)
    (fun i _ => len - (intOf i).toNat)
  case atStart => exact ⟨0, Nat.zero_le _, rfl, h0, KeepB.refl _ _ _⟩
  case round =>
    obtain ⟨k, hk, rfl, hJs, hnx⟩ := hrel
    by_cases hlt : k < len
    · have hcx : wr.cell? ⟨b, off + k, none⟩ = some (.int .i64 (zs[k]?.getD 0)) := (hnx.1.cell (p := ⟨b, off + k, none⟩) hb).trans (hc k hlt)
      have hFr : Hid (Blk Bf 23 #[.int .i64 f.bits, .int .i64 f.depth, .bool f.big, .bool f.tru, .int .i64 f.rm, .int .i64 f.gm, .int .i64 f.bm, .int .i64 f.rs, .int .i64 f.gs, .int .i64 f.bs] wr) := hide (hnx.2.trans hF)
      have KK := hide (K39.out k hlt wr)
      have HJ := hide hJs
      have HN := hide hnx
      have hsz : n₀ ≤ wr.heap.size := Nat.le_trans hn₀ hnx.1.size
      have hsf : Bf < wr.heap.size := (Array.getElem?_eq_some_iff.1 hFr.out).1
      clear hJs hnx
      have f0 : wr.cell? ⟨Bf, 0, none⟩ = some (.int .i64 f.bits) := hFr.out.cell 0
      have f1 : wr.cell? ⟨Bf, 1, none⟩ = some (.int .i64 f.depth) := hFr.out.cell 1
      have f2 : wr.cell? ⟨Bf, 2, none⟩ = some (.bool f.big) := hFr.out.cell 2
      have f3 : wr.cell? ⟨Bf, 3, none⟩ = some (.bool f.tru) := hFr.out.cell 3
      have f4 : wr.cell? ⟨Bf, 4, none⟩ = some (.int .i64 f.rm) := hFr.out.cell 4
      have f5 : wr.cell? ⟨Bf, 5, none⟩ = some (.int .i64 f.gm) := hFr.out.cell 5
      have f6 : wr.cell? ⟨Bf, 6, none⟩ = some (.int .i64 f.bm) := hFr.out.cell 6
      have f7 : wr.cell? ⟨Bf, 7, none⟩ = some (.int .i64 f.rs) := hFr.out.cell 7
      have f8 : wr.cell? ⟨Bf, 8, none⟩ = some (.int .i64 f.gs) := hFr.out.cell 8
      have f9 : wr.cell? ⟨Bf, 9, none⟩ = some (.int .i64 f.bs) := hFr.out.cell 9
      gi_wp2_with (gi_at_call 39; refine KK.out.mono ?_; rintro e w3 ⟨rfl, hb3⟩)
      have HJ3 := hJb _ _ _ HJ.out hb3
      have HN3 := hide (HN.out.trans (KeepB.of hb3 hsz hsf))
      obtain ⟨fn, tmps, assign, body, hy, hR⟩ := hY _ (u k) w3 HJ3 (by rw [upto_length]; exact hlt)
      clear hb3
      rw [hy]
      rw [Oper.uponIn_round]
      refine ⟨fun _ => hn, hR.mono ?_⟩
      rintro e W3 (⟨rfl, hJ3, hk3⟩ | ⟨rfl, hJx3⟩)
      · gi_wp2
        go_roundw
        case rel => exact ⟨k + 1, by omega, by simp, by rw [upto_succ]; exact hJ3, HN3.out.trans hk3⟩
        case measure => simp [intOf]; omega
      · gi_wp2
        refine bodyPost_ret (results_none rfl _ _ _) rfl ?_
        exact ⟨⟨_, rfl⟩, .inr ⟨_, ⟨k + 1, by omega, (upto_succ _ _).symm⟩, hJx3⟩⟩
    · obtain rfl : k = len := by omega
      gi_wp2
      go_end0
      exact ⟨⟨_, rfl⟩, .inl ⟨_, rfl, hJs⟩⟩

end Go.Proofs.Ytodlpofpeoiedaa

/-
  strings.Builder: copyCheck, WriteString, String, of a builder that the call has made itself: the walks of the kit's shelf, turned to this program's numbers.
-/
namespace Go.Proofs.Ytodlpofpeoiedaa
open Go.RowKit Go.Shelf Go.Sort

theorem b_info5 : (Try.prog.info? 5).map (fun i => (i.zero, i.size, i.bytes)) = some (some (.int .u8 0), 1, 1) := by kernel_rfl
theorem b_info116 : (Try.prog.info? 116).map (·.size) = some 2 := by kernel_rfl
theorem b_lies116 : liesAt Try.prog Try.prog.depth 116 (2 / Try.prog.cellsOf 116) 0 116 1 = true := by kernel_rfl
theorem b_u113 : Try.prog.underlying 113 = some (.pointer 116) := by kernel_rfl
theorem b_u177 : Try.prog.underlying 177 = some .unsafePointer := by kernel_rfl
theorem b_u114 : Try.prog.underlying 114 = some (.slice 5) := by kernel_rfl
theorem b_u9 : Try.prog.underlying 9 = some .string := by kernel_rfl
theorem b_u167 : Try.prog.underlying 167 = some (.pointer 5) := by kernel_rfl
theorem b_cells5 : Try.prog.cellsOf 5 = 1 := by kernel_rfl

set_option maxHeartbeats 1000000 in
set_option maxRecDepth 100000 in
theorem check_fresh (b : Nat) (w : World) (h0 : w.cell? ⟨b, 0, none⟩ = some (.pointer none)) (hsh : w.shape? b = some (116, 2)) (hfz : w.frozen? ⟨b, 0, none⟩ = false) :
    Calls Try.prog 135 #[.pointer (some ⟨b, 0, none⟩)] w fun e w' => e = .returned (.tuple #[]) ∧ w' = w.setCell ⟨b, 0, none⟩ (.pointer (some ⟨b, 0, none⟩)) := by
  obtain ⟨j, hj, hjs⟩ := Option.map_eq_some_iff.1 b_info116
  go_enter Try.func135, Try.ntmps135
  go_wp2
  rw [Lib.run_to_unsafe w ⟨b, 0, none⟩ b_u113 b_u177 hj (by rw [hjs]; decide) hsh (Nat.zero_lt_succ 1)]
  simp only [Result.andThen]
  rw [Oper.upon_value]
  go_wp2
  rw [run_callFunc_extern Try.func145 (by kernel_rfl) (by kernel_rfl) (by kernel_rfl) (e := Extern.AbiNoEscape.same) (by kernel_rfl)]
  rw [Lib.run_noEscape]
  simp only [Result.andThen]
  rw [Oper.upon_value]
  go_wp2
  rw [Lib.run_from_unsafe w ⟨b, 0, none⟩ b_u177 b_u113 hj hsh b_lies116]
  simp only [Result.andThen]
  rw [Oper.upon_value]
  go_wp2
  go_end0
  exact ⟨rfl, rfl⟩

set_option maxHeartbeats 1000000 in
set_option maxRecDepth 100000 in
theorem check_used (b : Nat) (w : World) (h0 : w.cell? ⟨b, 0, none⟩ = some (.pointer (some ⟨b, 0, none⟩))) :
    Calls Try.prog 135 #[.pointer (some ⟨b, 0, none⟩)] w fun e w' => e = .returned (.tuple #[]) ∧ w' = w := by
  obtain ⟨j, hj, _⟩ := Option.map_eq_some_iff.1 b_info116
  go_enter Try.func135, Try.ntmps135
  go_wp2
  rw [Lib.run_neq_ptr_same w _ b_u113 hj]
  go_wp2
  go_end0
  exact ⟨rfl, rfl⟩

/-- A builder of the call's own: it holds the bytes l; without a byte its buffer is nil. -/
def IsB (B b : Nat) (l : List UInt8) (w : World) : Prop :=
  ∃ p v, (p = .pointer none ∨ p = .pointer (some ⟨b, 0, none⟩)) ∧ B ≤ b ∧ w.heap[b]? = some (.cells #[p, v] 116 (0, 0)) ∧ w.ownsRowF B 5 1 v l.length (Lib.byteCells l) ∧ v.ownBlock ≠ some b ∧ (l = [] → v = .slice none 0 0)

theorem IsB.fresh (B : Nat) (w : World) (hB : B ≤ w.heap.size) : IsB B w.heap.size [] (w.alloc (.cells #[.pointer none, .slice none 0 0] 116)) :=
  ⟨_, _, .inl rfl, hB, World.alloc_heap_new w _, World.ownsRowF_nil _ _ _ _, by simp [Value.ownBlock], fun _ => rfl⟩

theorem IsB.lt {B b : Nat} {l : List UInt8} {w : World} (h : IsB B b l w) : b < w.heap.size := by
  obtain ⟨p, v, _, _, hb, _⟩ := h
  rcases Nat.lt_or_ge b w.heap.size with h' | h'
  · exact h'
  · simp [Array.getElem?_eq_none h'] at hb

/-- What leaves each block of cells as it lies leaves the builder. -/
theorem IsB.kept {B b : Nat} {l : List UInt8} {w w' : World} {row : Option Nat} (h : IsB B b l w) (hg : w.grownBy w' row) (hr : ∀ r, row = some r → ∃ o : Obj, w.heap[r]? = some o ∧ o.isCells = false) : IsB B b l w' := by
  have hlt := h.lt
  obtain ⟨p, v, hp, hB, hb, ho, hne, h0⟩ := h
  refine ⟨p, v, hp, hB, ?_, ho.kept hg ?_, hne, h0⟩
  · refine (hg.block b hlt fun e => ?_).trans hb
    obtain ⟨o, h1, h2⟩ := hr b e.symm
    rw [hb] at h1
    cases h1
    simp [Obj.isCells] at h2
  · cases hv : v.ownBlock with
    | none => exact .inl rfl
    | some g =>
      refine .inr fun e => ?_
      obtain ⟨o, h1, h2⟩ := hr g e.symm
      obtain ⟨c, fz, h3⟩ := Lib.ownsRowF_kind ho g hv
      rw [h3] at h1
      cases h1
      simp [Obj.isCells] at h2

theorem IsB.below {B b : Nat} {l : List UInt8} {w w' : World} (h : IsB B b l w) (hb : Below w.heap.size w w') : IsB B b l w' :=
  h.kept (row := none) ⟨hb.os, hb.tape, hb.output, hb.size, fun k hk _ => hb.block k hk⟩ (fun _ e => by cases e)

theorem check_any (B b : Nat) (l : List UInt8) (w : World) (h : IsB B b l w) :
    Calls Try.prog 135 #[.pointer (some ⟨b, 0, none⟩)] w fun e w' => e = .returned (.tuple #[]) ∧
      ((∃ v, B ≤ b ∧ w'.heap[b]? = some (.cells #[.pointer (some ⟨b, 0, none⟩), v] 116 (0, 0)) ∧ w'.ownsRowF B 5 1 v l.length (Lib.byteCells l) ∧ v.ownBlock ≠ some b ∧ (l = [] → v = .slice none 0 0)) ∧ Below B w w' ∧ Lib.OthersKept 5 (some b) w w') := by
  obtain ⟨p, v, hp, hB, hb, ho, hne, h0⟩ := h
  have hA : Lib.BuilderAtF 116 5 B b p (Lib.byteCells l) w := ⟨hB, v, hb, by rw [Lib.byteCells_length]; exact ho, hne⟩
  rcases hp with rfl | rfl
  · refine (check_fresh b w hA.cell0 hA.shape hA.frozen0).mono ?_
    rintro e w' ⟨rfl, rfl⟩
    refine ⟨rfl, ⟨v, hB, ?_, ?_, hne, h0⟩, (Below.refl B w).setCell (p := ⟨b, 0, none⟩) hB _, (Lib.OthersKept.refl _ _ w).setCell ⟨b, 0, none⟩ rfl _⟩
    · simp [World.setCell, Array.getElem?_modify, hb]
    · exact ho.kept (row := some b) ⟨rfl, rfl, rfl, by simp [World.setCell], fun k _ hk => Below.heap_setCell _ _ _ _ (fun e => hk (by simp [e]))⟩ (.inr hne)
  · refine (check_used b w hA.cell0).mono ?_
    rintro e w' ⟨rfl, rfl⟩
    exact ⟨rfl, ⟨v, hB, hb, ho, hne, h0⟩, Below.refl B _, Lib.OthersKept.refl _ _ _⟩

set_option maxHeartbeats 2000000 in
set_option maxRecDepth 100000 in
/-- (*strings.Builder).WriteString. -/
theorem bwrite_any (B b : Nat) (l : List UInt8) (s : ByteArray) (w : World) (h : IsB B b l w) (hlen : l.length + s.size ≤ 140737488355328) (hBw : B ≤ w.heap.size) :
    Calls Try.prog 88 #[.pointer (some ⟨b, 0, none⟩), .string s] w fun e w' => e = .returned (.tuple #[.int .i64 s.size, .nilIface]) ∧ (IsB B b (l ++ s.data.toList) w' ∧ Below B w w' ∧ Lib.OthersKept 5 (some b) w w') := by
  obtain ⟨i0, hi, hz0, hz1, hz2⟩ := info_parts b_info5
  go_enter Try.func88, Try.ntmps88
  go_wp2_with (go_at_call 135; refine (check_any B b l _ h).mono ?_)
  rintro e w1 ⟨rfl, h1, hb1, hk1⟩
  obtain ⟨v, hB, hbk, hown, hne, h0⟩ := h1
  have H0 := hide h0
  clear h0
  have c0 : w1.cell? ⟨b, 0, none⟩ = some (.pointer (some ⟨b, 0, none⟩)) := by rw [Lib.cell_of_heap hbk]; rfl
  have c1 : w1.cell? ⟨b, 1, none⟩ = some v := by rw [Lib.cell_of_heap hbk]; rfl
  go_wp2_with (at_builtin; refine Lib.wpList_append_own_stringF _ rfl _ _ 114 9 rfl B 5 i0 b_u114 b_u9 hi hz0 hz1 hz2 _ _ _ rfl hown s rfl ?c3 ?c4 ?c5 ?_)
  case c3 => unfold maxLen; omega
  case c4 => omega
  case c5 => have := hb1.size; omega
  intro v' w2 hown' hgrow hnil
  have HN := hide hnil
  clear hnil
  have hlt : b < w1.heap.size := by
    rcases Nat.lt_or_ge b w1.heap.size with h' | h'
    · exact h'
    · simp [Array.getElem?_eq_none h'] at hbk
  have hb2 : w2.heap[b]? = some (.cells #[.pointer (some ⟨b, 0, none⟩), v] 116 (0, 0)) := by
    rw [hgrow.block b hlt (fun e => hne e.symm)]
    exact hbk
  have d0 : w2.cell? ⟨b, 0, none⟩ = some (.pointer (some ⟨b, 0, none⟩)) := by rw [Lib.cell_of_heap hb2]; rfl
  have d1 : w2.cell? ⟨b, 1, none⟩ = some v := by rw [Lib.cell_of_heap hb2]; rfl
  have f1 : w2.frozen? ⟨b, 1, none⟩ = false := Lib.frozen_of_heap hb2 1
  obtain ⟨ao, n', cap, rfl⟩ : ∃ ao n' cap, v' = .slice ao n' cap := by
    rcases hown'.2 with ⟨hv, _⟩ | ⟨g, cap, cur, fz, hv, _⟩
    · exact ⟨_, _, _, hv⟩
    · exact ⟨_, _, _, hv⟩
  have hne2 := Lib.ownBlock_neF hown' hb2 (by decide)
  go_wp2
  go_ret2
  refine ⟨rfl, ⟨_, .slice ao n' cap, .inr rfl, hB, ?_, ?_, hne2, ?_⟩, ?_, (hk1.grown hgrow (Lib.ownsRowF_kind hown)).setCell ⟨b, 1, none⟩ rfl _⟩
  · simp [World.setCell, Array.getElem?_modify, hb2]
  · have e1 : (l ++ s.data.toList).length = l.length + s.size := by rw [List.length_append, Array.length_toList]; rfl
    rw [e1, Lib.byteCells_append]
    exact hown'.kept (row := some b) ⟨rfl, rfl, rfl, by simp [World.setCell], fun k _ hk => Below.heap_setCell _ _ _ _ (fun e => hk (by simp [e]))⟩ (.inr hne2)
  · intro e
    obtain ⟨e1, e2⟩ := List.append_eq_nil_iff.1 e
    refine HN.out.2 ⟨H0.out e1, ?_⟩
    have e3 : s.data = #[] := by simpa using e2
    exact congrArg ByteArray.mk e3
  · exact (hb1.grown hgrow (by have := hb1.size; omega) (fun k hk => (hown.lt k hk).1)).setCell (p := ⟨b, 1, none⟩) hB _

set_option maxHeartbeats 1000000 in
set_option maxRecDepth 100000 in
/-- (*strings.Builder).String: of a builder that holds at least one byte. -/
theorem bstring_some (B b : Nat) (l : List UInt8) (w : World) (h : IsB B b l w) (h0 : l ≠ []) :
    Calls Try.prog 89 #[.pointer (some ⟨b, 0, none⟩)] w fun e w' => e = .returned (.string ⟨l.toArray⟩) ∧ Below B w w' ∧ Lib.OthersKept 5 (some b) w w' := by
  obtain ⟨p, v, _, hB, hbk, hown, hne, _⟩ := h
  have hl0 : l.length ≠ 0 := by simpa using h0
  obtain ⟨g, cap, cur, fz, rfl, hbg, hg, hfz, hnc, hcm, hcs, htake⟩ : ∃ g cap cur fz, v = .slice (some ⟨g, 0, none⟩) l.length cap ∧ B ≤ g ∧ w.heap[g]? = some (.cells cur 5 fz) ∧ fz.2 ≤ l.length * 1 ∧ l.length ≤ cap ∧ cap ≤ maxLen ∧ cur.size = cap * 1 ∧ cur.toList.take (l.length * 1) = Lib.byteCells l := by
    rcases hown.2 with ⟨_, hz⟩ | ⟨g, cap, cur, fz, hv, r⟩
    · exact absurd hz hl0
    · exact ⟨g, cap, cur, fz, hv, r⟩
  have c1 : w.drew.cell? ⟨b, 1, none⟩ = some (.slice (some ⟨g, 0, none⟩) l.length cap) := by
    have : w.drew.heap[b]? = some (.cells #[p, .slice (some ⟨g, 0, none⟩) l.length cap] 116 (0, 0)) := hbk
    rw [Lib.cell_of_heap this]; rfl
  have hSD : (Builtin.unsafeSliceData_ #[114] 167 #[.slice (some ⟨g, 0, none⟩) l.length cap]).run Try.prog w.drew = .ok (.pointer (some ⟨g, 0, none⟩)) w.drew :=
    Lib.run_unsafeSliceData_row _ _ _ _ _ _ (by omega)
  have hUS : (Builtin.unsafeString_ #[167, 3] 9 #[.pointer (some ⟨g, 0, none⟩), .int .i64 l.length]).run Try.prog w.drew = .ok (.string ⟨l.toArray⟩) (w.drew.freeze ⟨g, 0, none⟩ l.length) := by
    refine Lib.run_unsafeString_row w.drew 167 3 9 5 b_u167 b_cells5 g cur.size (by have hg' : w.drew.heap[g]? = some (.cells cur 5 fz) := hg; simp [World.shape?, hg']) l h0 (by omega) (by unfold maxLen at hcm; omega) ?_
    intro j x hx
    have := hown.cells (g := g) rfl j (.int .u8 x.toNat) (by simp [Lib.byteCells, hx])
    exact this
  go_enter Try.func89, Try.ntmps89
  go_wp2
  go_region
  all_goals (go_wp2; go_ret; exact ⟨rfl, Lib.below_freeze (Below.drew (Below.refl B w)) (p := ⟨g, 0, none⟩) hbg _, ((Lib.OthersKept.refl _ _ w).drew).freeze ⟨g, 0, none⟩ _ ⟨cur, fz, hg⟩⟩)

set_option maxHeartbeats 1000000 in
set_option maxRecDepth 100000 in
/-- (*strings.Builder).String: of a builder that nothing was written to. -/
theorem bstring_nil (B b : Nat) (p : Value) (w : World) (hbk : w.heap[b]? = some (.cells #[p, .slice none 0 0] 116 (0, 0))) :
    Calls Try.prog 89 #[.pointer (some ⟨b, 0, none⟩)] w fun e w' => e = .returned (.string ⟨#[]⟩) ∧ Below B w w' ∧ Lib.OthersKept 5 (some b) w w' := by
  have hUS : ∀ (W : World) (q : Option Addr), (Builtin.unsafeString_ #[167, 3] 9 #[.pointer q, .int .i64 0]).run Try.prog W = .ok (.string .empty) W := fun W q => Lib.run_unsafeString_none W _ _ _ q
  have c1 : w.drew.cell? ⟨b, 1, none⟩ = some (.slice none 0 0) := by
    have : w.drew.heap[b]? = some (.cells #[p, .slice none 0 0] 116 (0, 0)) := hbk
    rw [Lib.cell_of_heap this]; rfl
  have hSD : (Builtin.unsafeSliceData_ #[114] 167 #[.slice none 0 0]).run Try.prog w.drew = .ok (.pointer none) w.drew := rfl
  go_enter Try.func89, Try.ntmps89
  go_wp2
  go_region
  all_goals (go_wp2; go_ret; exact ⟨rfl, Below.drew (Below.refl B w), (Lib.OthersKept.refl _ _ w).drew⟩)

/-- (*strings.Builder).String, of a builder of the call's own. -/
theorem bstring_any (B b : Nat) (l : List UInt8) (w : World) (h : IsB B b l w) :
    Calls Try.prog 89 #[.pointer (some ⟨b, 0, none⟩)] w fun e w' => e = .returned (.string ⟨l.toArray⟩) ∧ Below B w w' ∧ Lib.OthersKept 5 (some b) w w' := by
  by_cases h0 : l = []
  · subst h0
    obtain ⟨p, v, _, hB, hbk, _, _, hz⟩ := h
    obtain rfl := hz rfl
    exact bstring_nil B b p w hbk
  · exact bstring_some B b l w h h0

end Go.Proofs.Ytodlpofpeoiedaa

/-
  plain.values and plain.Raw: colours' values, one after the other, and their bytes.
-/
namespace Go.Proofs.Ytodlpofpeoiedaa
open Go.RowKit Go.Shelf Go.Sort

attribute [local go_sem] Oper.semAt_some

/-- A colour's value, whatever the format. -/
def valA (f : Fmt) (c : Int) : Int := if validB f then valV f c else 0

set_option maxHeartbeats 1600000 in
set_option maxRecDepth 100000 in
theorem value_no (f : Fmt) (c : Int) (w : World) (K17 : Hid (∀ w, Calls Try.prog 17 #[fmtV f] w fun e w' => e = .returned (.bool false) ∧ Below w.heap.size w w')) :
    Calls Try.prog 39 #[fmtV f, .int .i64 c] w fun e w' => e = .returned (.int .i64 0) ∧ Below w.heap.size w w' := by
  go_enter Try.func39, Try.ntmps39
  go_wp2_with fail
  refine (K17.out _).mono ?_
  rintro e w1 ⟨rfl, hb1⟩
  have HB := hide (((Below.refl _ _).alloc (Nat.le_refl _) _).trans (hb1.mono (by simp)))
  clear hb1
  go_wp2_with fail
  go_ret
  exact ⟨rfl, HB.out⟩

theorem value_all (f : Fmt) (c : Int) (w : World) (hf : f.fit) :
    Calls Try.prog 39 #[fmtV f, .int .i64 c] w fun e w' => e = .returned (.int .i64 (valA f c)) ∧ Below w.heap.size w w' := by
  cases h : validB f with
  | true =>
    have e : valA f c = valV f c := by simp [valA, h]
    rw [e]
    exact value_any f c w h
  | false =>
    have e : valA f c = 0 := by simp [valA, h]
    rw [e]
    exact value_no f c w (fun w => by have := valid_fit f w hf; rwa [h] at this)

/-- A row of numbers that lies below n₀. -/
def IntsIn (n₀ : Nat) (W : World) (a : Option Addr) (n : Nat) (zs : List Int) : Prop :=
  zs.length = n ∧ (n = 0 ∨ ∃ b off, a = some ⟨b, off, none⟩ ∧ b < n₀ ∧ ∀ j, j < n → W.cell? ⟨b, off + j, none⟩ = some (.int .i64 (zs[j]?.getD 0)))

theorem IntsIn.below {n₀ : Nat} {A B : World} {a : Option Addr} {n : Nat} {zs : List Int} (h : IntsIn n₀ A a n zs) (hb : Below n₀ A B) : IntsIn n₀ B a n zs :=
  ⟨h.1, h.2.imp id fun ⟨b, off, e, hlt, hc⟩ => ⟨b, off, e, hlt, fun j hj => (hb.cell (p := ⟨b, off + j, none⟩) hlt).trans (hc j hj)⟩⟩

set_option maxRecDepth 100000 in
set_option maxHeartbeats 1000000 in
theorem values1_zero (F : Fence) (n : Nat) (h134 : F.fn 134) (hro : F.round = none) (l Bs Bf cap : Nat) (a : Option Addr) (J : List Int → World → Prop) (W : World) (hBs : W.cell? ⟨Bs, 0, none⟩ = some (.slice a 0 cap)) (h0 : J [] W) :
    CallsIn F n Try.prog 134 #[.func (.yield l) #[] #[], .pointer (some ⟨Bs, 0, none⟩), .pointer (some ⟨Bf, 0, none⟩)] W fun e W' => (∃ v, e = .returned v) ∧ J [] W' := by
  refine callsIn_of_wp Try.func134 rfl h134 ?_ hro
  simp only [Try.ntmps134, List.size_toArray, List.length_cons, List.length_nil, Nat.reduceAdd, Nat.reduceSub, Array.replicate_succ, Array.replicate_zero, List.push_toArray, List.append_toArray, List.nil_append, List.cons_append]
  gi_wp2
  gi_loopw [8] (fun i wr => i = .int .i64 0 ∧ J [] wr) (fun _ _ => 0)
  case atStart => exact ⟨rfl, h0⟩
  case round =>
    obtain ⟨rfl, hJs⟩ := hrel
    gi_wp2
    go_end0
    exact ⟨⟨_, rfl⟩, hJs⟩

/-- What plain.values hands back, to range over. -/
theorem values_stops (n : Nat) (hn : 1 ≤ n) (f : Fmt) (hf : f.fit) (Bs Bf n₀ len cap : Nat) (a : Option Addr) (zs : List Int) (hreach : len * 8 ≤ 140737488351232) (w : World) (hBs : Bs < w.heap.size) (hn₀ : n₀ ≤ w.heap.size)
    (hF : Blk Bf 23 (fmtC f) w) (hc : w.cell? ⟨Bs, 0, none⟩ = some (.slice a len cap)) (hI : IntsIn n₀ w a len zs) :
    SeqStopsK Fence.wide n Try.prog 134 #[.pointer (some ⟨Bs, 0, none⟩), .pointer (some ⟨Bf, 0, none⟩)] (fun x : Int => #[Value.int .i64 x]) (KeepB n₀ Bf) (fun ys => ys = zs.map (valA f)) (fun _ => True) len w := fun l J Jx W hW hJ _ hY h0 => by
  have hc' := (hW.cell (p := ⟨Bs, 0, none⟩) hBs).trans hc
  have hF' : Blk Bf 23 (fmtC f) W := (hW.block Bf (Array.getElem?_eq_some_iff.1 hF).1).trans hF
  obtain ⟨hl, rfl | ⟨b, off, rfl, hb, hcs⟩⟩ := hI.below (hW.mono hn₀)
  · obtain rfl := List.length_eq_zero_iff.1 hl
    exact (values1_zero Fence.wide n trivial rfl l Bs Bf cap a J W hc' h0).mono fun e W' ⟨he, hj⟩ => ⟨he, .inl ⟨_, rfl, hj⟩⟩
  · refine (values1_in Fence.wide n trivial trivial rfl hn l Bs Bf n₀ b off len cap f zs (fun j => valA f (zs[j]?.getD 0)) hreach hb J Jx
      (fun j _ w => callsIn_wide.2 (value_all f _ w hf)) (fun pre A B hA hAB => hJ pre A B none hA ⟨hAB.os, hAB.tape, hAB.output, hAB.size, fun k hk _ => hAB.block k hk⟩ (fun _ e => by cases e)) hY W (Nat.le_trans hn₀ hW.size) hc' hF' hcs h0).mono ?_
    rintro e W' ⟨he, ⟨ys, rfl, hj⟩ | ⟨pre, ⟨k, hk, rfl⟩, hj⟩⟩
    · refine ⟨he, .inl ⟨_, ?_, hj⟩⟩
      apply List.ext_getElem
      · rw [upto_length, List.length_map, hl]
      · intro i h1 h2
        have : i < zs.length := by simpa using h2
        simp [upto, this]
    · exact ⟨he, .inr ⟨_, trivial, hj⟩⟩

set_option maxHeartbeats 1600000 in
set_option maxRecDepth 100000 in
/-- plain.values: both are boxed. -/
theorem values_mk (f : Fmt) (a : Option Addr) (len cap : Nat) (w : World) :
    Calls Try.prog 87 #[fmtV f, .slice a len cap] w fun e w' => e = .returned (.func (.func 134) #[] #[.pointer (some ⟨w.heap.size + 1, 0, none⟩), .pointer (some ⟨w.heap.size, 0, none⟩)]) ∧
      (w'.heap.size = w.heap.size + 2 ∧ Blk w.heap.size 23 (fmtC f) w' ∧ w'.cell? ⟨w.heap.size + 1, 0, none⟩ = some (.slice a len cap) ∧ Below w.heap.size w w') := by
  have F0 := hide (Blk.new w 23 (fmtC f))
  have B0 := hide ((Below.refl w.heap.size w).alloc (Nat.le_refl _) (.cells (fmtC f) 23))
  have Z0 := hide (World.size_alloc w (.cells (fmtC f) 23))
  go_enter Try.func87, Try.ntmps87
  go_wp2_with fail
  go_ret
  refine ⟨rfl, by simp, ?_, ?_, ?_⟩
  · exact (Below.heap_alloc _ _ _ (by simp)).trans F0.out
  · have := (Blk.new (w.alloc (.cells (fmtC f) 23)) 32 #[.slice a len cap]).cell 0
    rw [World.size_alloc] at this
    exact this
  · exact B0.out.alloc (by simp) _

end Go.Proofs.Ytodlpofpeoiedaa

/-
  plain.Raw: colours as they are.
-/
namespace Go.Proofs.Ytodlpofpeoiedaa
open Go.RowKit Go.Shelf Go.Sort

attribute [local go_sem] Oper.semAt_some

/-- Values' bytes, one behind the other. -/
def putsL (f : Fmt) (vs : List Int) : List UInt8 := vs.flatMap fun v => (putV f v).data.toList
theorem putsL_snoc (f : Fmt) (vs : List Int) (v : Int) : putsL f (vs ++ [v]) = putsL f vs ++ (putV f v).data.toList := by simp [putsL]
theorem putV_size (f : Fmt) (v : Int) : (putV f v).size = sizeN f := by rw [putV_eq, ordB_len]
theorem putsL_length (f : Fmt) (vs : List Int) : (putsL f vs).length = vs.length * sizeN f := by
  induction vs with
  | nil => simp [putsL]
  | cons v vs ih =>
    have e : putsL f (v :: vs) = (putV f v).data.toList ++ putsL f vs := rfl
    have z : (putV f v).data.toList.length = sizeN f := by rw [Array.length_toList]; exact putV_size f v
    rw [e, List.length_append, ih, z, List.length_cons, Nat.add_mul]
    omega

/-- Colours' bytes. -/
def rawB (f : Fmt) (zs : List Int) : ByteArray := ⟨(putsL f (zs.map (valA f))).toArray⟩

/-- What stands between two rounds: the builder holds the bytes; the format lies in its box. -/
def RawI (B Bf Bv b : Nat) (f : Fmt) (w : World) (pre : List Int) (W : World) : Prop :=
  IsB B b (putsL f pre) W ∧ Blk Bf 23 (fmtC f) W ∧ Blk Bv 23 (fmtC f) W ∧ Below B w W

theorem rawI_from (B Bf Bv b D : Nat) (f : Fmt) (w : World) (hBf : Bf < D) (hBv : Bv < D) (hBD : B ≤ D) (hw : B ≤ w.heap.size) : OwnFrom D (RawI B Bf Bv b f w) := by
  rintro s X Y row ⟨h1, h2, h4, h3⟩ hg hr
  refine ⟨h1.kept hg fun r e => (hr r e).2, ?_, ?_, h3.grown hg (Nat.le_trans hw h3.size) fun k e => Nat.le_trans hBD (hr k e).1⟩
  · have hlt : Bf < X.heap.size := (Array.getElem?_eq_some_iff.1 h2).1
    exact (hg.block Bf hlt fun e => by have := (hr Bf e.symm).1; omega).trans h2
  · have hlt : Bv < X.heap.size := (Array.getElem?_eq_some_iff.1 h4).1
    exact (hg.block Bv hlt fun e => by have := (hr Bv e.symm).1; omega).trans h4

set_option maxHeartbeats 2000000 in
set_option maxRecDepth 100000 in
theorem raw_walk (f : Fmt) (a : Option Addr) (len cap : Nat) (zs : List Int) (w : World) (hf : f.fit) (hlen : len ≤ 1099511627776) (hI : Hid (IntsIn w.heap.size w a len zs))
    (K36 : Hid (∀ v w, Calls Try.prog 36 #[fmtV f, .int .i64 v] w fun e w' => e = .returned (.string (putV f v)) ∧ Below w.heap.size w w')) :
    Calls Try.prog 25 #[fmtV f, .slice a len cap] w fun e w' => e = .returned (.string (rawB f zs)) ∧ Below w.heap.size w w' := by
  have F0 := hide (Blk.new w 23 (fmtC f))
  have B0 := hide ((Below.refl w.heap.size w).alloc (Nat.le_refl _) (.cells (fmtC f) 23))
  have Z0 := hide (World.size_alloc w (.cells (fmtC f) 23))
  refine (callsIn_wide (n := 5)).1 ?_
  refine callsIn_of_wp_marks Try.func25 rfl trivial ?_ rfl
  simp only [Try.ntmps25, List.size_toArray, List.length_cons, List.length_nil, Nat.reduceAdd, Nat.reduceSub, Array.replicate_succ, Array.replicate_zero, List.push_toArray, List.append_toArray, List.nil_append, List.cons_append]
  gi_wp2_with fail
  refine ⟨trivial, ?_⟩
  gi_at_call 87
  refine (callsIn_wide.2 (values_mk f a len cap _)).mono ?_
  rintro e w1 ⟨rfl, hz1, hF1, hc1, hb1⟩
  have S2 : ((w.alloc (.cells (fmtC f) 23)).alloc (.cells #[.pointer none, .slice none 0 0] 116)).heap.size = w.heap.size + 2 := by simp
  have I1 : Hid (IsB w.heap.size (w.heap.size + 1) [] w1) := hide (by have := (IsB.fresh w.heap.size (w.alloc (.cells (fmtC f) 23)) (by simp)).below hb1; rwa [World.size_alloc] at this)
  have G1 : Hid (Blk w.heap.size 23 (fmtC f) w1) := by
    have := hide ((hb1.block w.heap.size (by rw [S2]; omega)).trans ((Below.heap_alloc (w.alloc (.cells (fmtC f) 23)) (.cells #[.pointer none, .slice none 0 0] 116) w.heap.size (by simp)).trans F0.out))
    exact this
  have B1 : Hid (Below w.heap.size w w1) := hide ((B0.out.alloc (by simp) _).trans (hb1.mono (by rw [S2]; omega)))
  rw [S2] at hz1 hF1 hc1 ⊢
  have hz := hz1
  have HF := hide hF1
  have HC := hide hc1
  clear hF1 hc1 hb1 S2 hz1 F0 B0 Z0
  gi_wp2_with fail
  refine wpIn_rangeFunc_ownG rfl (by omega) (gf := 134) (lb := #[.pointer (some ⟨w.heap.size + 2 + 1, 0, none⟩), .pointer (some ⟨w.heap.size + 2, 0, none⟩)]) rfl trivial (enters_of Try.func134 (by kernel_rfl) rfl)
    (values_stops (5 - 1) (by omega) f hf (w.heap.size + 2 + 1) (w.heap.size + 2) w.heap.size len cap a zs (by omega) w1 (by omega) (by omega) HF.out HC.out (hI.out.below B1.out))
    (fun h k => h.trans k) (fun W l o o' hl ho hc hw => ⟨belowK_b (w := w1) (by omega) W l o o' hl ho hc hw, World.putObj_heap_other (by omega)⟩) (Below.refl _ _) (fun _ => rfl)
    (RawI w.heap.size w.heap.size (w.heap.size + 2) (w.heap.size + 1) f w) (fun _ _ _ => False)
    (rawI_from _ _ _ _ _ f w (by omega) (by omega) (by omega) (by omega)) (fun _ _ _ _ _ hs _ _ => hs)
    ⟨I1.out, G1.out, HF.out, B1.out⟩
    (fun x => { tmps := #[fmtV f, .slice a len cap, .pointer (some ⟨w.heap.size, 0, none⟩), undef, .string ⟨#[]⟩, .pointer (some ⟨w.heap.size + 1, 0, none⟩), .int .i64 x, fmtV f, .slice a len cap, .func (.func 134) #[] #[.pointer (some ⟨w.heap.size + 2 + 1, 0, none⟩), .pointer (some ⟨w.heap.size + 2, 0, none⟩)], .int .i64 x, undef, undef, undef, undef, undef], defers := [] }) ?assign ?body ?done ?stop
  case assign =>
    intro l x W K hK
    gi_wp2
    exact hK
  case body =>
    rintro l pre x W ⟨hIB, hF, hV, hB⟩ hlt
    have f0 : W.cell? ⟨w.heap.size, 0, none⟩ = some (.int .i64 f.bits) := hF.cell 0
    have f1 : W.cell? ⟨w.heap.size, 1, none⟩ = some (.int .i64 f.depth) := hF.cell 1
    have f2 : W.cell? ⟨w.heap.size, 2, none⟩ = some (.bool f.big) := hF.cell 2
    have f3 : W.cell? ⟨w.heap.size, 3, none⟩ = some (.bool f.tru) := hF.cell 3
    have f4 : W.cell? ⟨w.heap.size, 4, none⟩ = some (.int .i64 f.rm) := hF.cell 4
    have f5 : W.cell? ⟨w.heap.size, 5, none⟩ = some (.int .i64 f.gm) := hF.cell 5
    have f6 : W.cell? ⟨w.heap.size, 6, none⟩ = some (.int .i64 f.bm) := hF.cell 6
    have f7 : W.cell? ⟨w.heap.size, 7, none⟩ = some (.int .i64 f.rs) := hF.cell 7
    have f8 : W.cell? ⟨w.heap.size, 8, none⟩ = some (.int .i64 f.gs) := hF.cell 8
    have f9 : W.cell? ⟨w.heap.size, 9, none⟩ = some (.int .i64 f.bs) := hF.cell 9
    have HIB := hide hIB
    have HFW := hide hF
    have HVW := hide hV
    have HBW := hide hB
    have HL : Hid ((putsL f pre).length + (putV f x).size ≤ 140737488355328) := hide (by
      have h4 := size_le f
      have : pre.length * sizeN f ≤ 1099511627776 * 4 := Nat.mul_le_mul (by omega) h4
      rw [putsL_length, putV_size]
      omega)
    clear hIB hF hV hB
    gi_wp2_with fail
    refine ⟨trivial, ?_⟩
    gi_at_call 36
    refine (CallsIn.inRound l (callsIn_wide.2 (K36.out x _))).mono ?_
    rintro e w2 ⟨rfl, hb2⟩
    have HB2 := hide hb2
    have hs2 : w.heap.size ≤ w2.heap.size := Nat.le_trans HBW.out.size (Nat.le_trans HB2.out.size (Nat.le_refl _))
    clear hb2
    gi_wp2_with fail
    refine ⟨trivial, ?_⟩
    gi_at_call 88
    refine (CallsIn.inRound l (callsIn_wide.2 (bwrite_any w.heap.size (w.heap.size + 1) (putsL f pre) (putV f x) _ (HIB.out.below HB2.out) HL.out (by omega)))).mono ?_
    rintro e w3 ⟨rfl, hI3, hb3, hk3⟩
    have HI3 := hide hI3
    have HB3 := hide hb3
    have HK3 := hide hk3
    clear hI3 hb3 hk3
    gi_wp2_with fail
    have hlt1 : w.heap.size < W.heap.size := (Array.getElem?_eq_some_iff.1 HFW.out).1
    have keep : ∀ (k : Nat) (o : Obj), k ≠ w.heap.size + 1 → (∀ c fz, o ≠ .cells c 5 fz) → W.heap[k]? = some o → w3.heap[k]? = some o := fun k o hk ho hW =>
      HK3.out k o ((HB2.out.block k (Array.getElem?_eq_some_iff.1 hW).1).trans hW) (by simpa using hk) ho
    have hB3 : Below w.heap.size W w3 := (HB2.out.mono HBW.out.size).trans HB3.out
    refine ⟨⟨hB3.size, fun k o hk hW hc => keep k o (by omega) (fun c fz e => by rw [e] at hc; cases hc) hW⟩, ⟨hB3, ?_⟩, ⟨?_, ?_, ?_, HBW.out.trans hB3⟩⟩
    · exact (keep _ _ (by omega) (fun c fz e => by cases e) HVW.out).trans HVW.out.symm
    · rw [putsL_snoc]
      exact HI3.out
    · exact keep _ _ (by omega) (fun c fz e => by cases e) HFW.out
    · exact keep _ _ (by omega) (fun c fz e => by cases e) HVW.out
  case done =>
    rintro D ys W hD rfl ⟨hIB, hF, _, hB⟩ hK
    have HIB := hide hIB
    have HBW := hide hB
    have HK := hide hK
    clear hIB hF hB hK
    gi_wp2_with fail
    refine ⟨trivial, ?_⟩
    gi_at_call 89
    refine (callsIn_wide.2 (bstring_any w.heap.size (w.heap.size + 1) _ _ HIB.out)).mono ?_
    rintro e w2 ⟨rfl, hb2, hk2⟩
    have HB2 := hide hb2
    have HK2 := hide (hk2 D _ HK.out (by simp; omega) (fun _ _ e => by cases e))
    clear hb2 hk2
    gi_wp2_with fail
    refine ⟨by simp, .inl ⟨_, _, rfl, run_takeDeferred HK2.out, ?_⟩⟩
    exact ⟨_, results_tmp rfl _ _ _, rfl, (HBW.out.trans HB2.out).trans (belowK_b (w := w) (Nat.le_refl _) w2 D _ _ (by omega) HK2.out rfl rfl)⟩
  case stop =>
    rintro D c pre W _ _ h _
    exact h.elim

/-- plain.Raw: colours as they are. -/
theorem raw_any (f : Fmt) (a : Option Addr) (len cap : Nat) (zs : List Int) (w : World) (hf : f.fit) (hlen : len ≤ 1099511627776) (hI : IntsIn w.heap.size w a len zs) :
    Calls Try.prog 25 #[fmtV f, .slice a len cap] w fun e w' => e = .returned (.string (rawB f zs)) ∧ Below w.heap.size w w' :=
  raw_walk f a len cap zs w hf hlen hI (fun v w => put36_any f v w hf)

end Go.Proofs.Ytodlpofpeoiedaa

/-
  plain.Values: colours' values.
-/
namespace Go.Proofs.Ytodlpofpeoiedaa
open Go.RowKit Go.Shelf Go.Sort

attribute [local go_sem] Oper.semAt_some

/-- What stands between two rounds: the box holds a slice of the values that have come. -/
def ValI (B Bv b : Nat) (f : Fmt) (w : World) (pre : List Int) (W : World) : Prop :=
  (∃ v, Boxed W b 32 v ∧ W.ownsRow B 3 1 v pre.length (pre.map (Value.int .i64)) ∧ (v = .slice none 0 0 ↔ pre = [])) ∧ Blk Bv 23 (fmtC f) W ∧ Below B w W

theorem valI_from (B Bv b D : Nat) (f : Fmt) (w : World) (hBv : Bv < D) (hBD : B ≤ D) (hw : B ≤ w.heap.size) : OwnFrom D (ValI B Bv b f w) := by
  rintro s X Y row ⟨h1, h4, h3⟩ hg hr
  refine ⟨holdsRow_own B b 32 3 1 (fun pre => pre.length) (fun pre => pre.map (Value.int .i64)) (fun pre v => v = .slice none 0 0 ↔ pre = []) s X Y row h1 hg fun r e => (hr r e).2, ?_, h3.grown hg (Nat.le_trans hw h3.size) fun k e => Nat.le_trans hBD (hr k e).1⟩
  have hlt : Bv < X.heap.size := (Array.getElem?_eq_some_iff.1 h4).1
  exact (hg.block Bv hlt fun e => by have := (hr Bv e.symm).1; omega).trans h4

theorem own_kind {w : World} {B e n : Nat} {v : Value} {xs : List Value} (h : w.ownsRow B e 1 v n xs) : ∀ g, v.ownBlock = some g → ∃ c, w.heap[g]? = some (.cells c e (0, 0)) := by
  intro g hg
  rcases h.2 with ⟨rfl, _⟩ | ⟨k, cap, cur, rfl, _, hb, _⟩
  · simp [Value.ownBlock] at hg
  · obtain rfl : k = g := by simpa [Value.ownBlock] using hg
    exact ⟨_, hb⟩

set_option maxHeartbeats 2000000 in
set_option maxRecDepth 100000 in
/-- plain.Values. -/
theorem vals_any (f : Fmt) (a : Option Addr) (len cap : Nat) (zs : List Int) (w : World) (hf : f.fit) (hlen : len ≤ 1099511627776) (hI : Hid (IntsIn w.heap.size w a len zs)) :
    Calls Try.prog 32 #[fmtV f, .slice a len cap] w fun e w' => ∃ v, e = .returned v ∧ w'.ownsRow w.heap.size 3 1 v len ((zs.map (valA f)).map (Value.int .i64)) ∧ Below w.heap.size w w' := by
  have hlz := hI.out.1
  obtain ⟨i0, hi, hz0, hz1, hz2⟩ := info_parts info3
  have F0 := hide (Blk.new w 23 (fmtC f))
  have B0 := hide ((Below.refl w.heap.size w).alloc (Nat.le_refl _) (.cells (fmtC f) 23))
  refine (callsIn_wide (n := 5)).1 ?_
  refine callsIn_of_wp_marks Try.func32 rfl trivial ?_ rfl
  simp only [Try.ntmps32, List.size_toArray, List.length_cons, List.length_nil, Nat.reduceAdd, Nat.reduceSub, Array.replicate_succ, Array.replicate_zero, List.push_toArray, List.append_toArray, List.nil_append, List.cons_append]
  gi_wp2_with fail
  refine ⟨trivial, ?_⟩
  gi_at_call 87
  refine (callsIn_wide.2 (values_mk f a len cap _)).mono ?_
  rintro e w1 ⟨rfl, hz1', hF1, hc1, hb1⟩
  have S2 : ((w.alloc (.cells (fmtC f) 23)).alloc (.cells #[.slice none 0 0] 32)).heap.size = w.heap.size + 2 := by simp
  have X0 : Boxed ((w.alloc (.cells (fmtC f) 23)).alloc (.cells #[.slice none 0 0] 32)) (w.heap.size + 1) 32 (.slice none 0 0) := by
    have := Boxed.new (w.alloc (.cells (fmtC f) 23)) 32 (.slice none 0 0)
    rwa [World.size_alloc] at this
  have I1 : Hid (Boxed w1 (w.heap.size + 1) 32 (.slice none 0 0)) := hide ((hb1.block _ (by rw [S2]; omega)).trans X0)
  have B1 : Hid (Below w.heap.size w w1) := hide ((B0.out.alloc (by simp) _).trans (hb1.mono (by rw [S2]; omega)))
  rw [S2] at hz1' hF1 hc1 ⊢
  have hz := hz1'
  have HF := hide hF1
  have HC := hide hc1
  clear hF1 hc1 hb1 S2 hz1' F0 B0 X0
  gi_wp2_with fail
  refine wpIn_rangeFunc_ownG rfl (by omega) (gf := 134) (lb := #[.pointer (some ⟨w.heap.size + 2 + 1, 0, none⟩), .pointer (some ⟨w.heap.size + 2, 0, none⟩)]) rfl trivial (enters_of Try.func134 (by kernel_rfl) rfl)
    (values_stops (5 - 1) (by omega) f hf (w.heap.size + 2 + 1) (w.heap.size + 2) w.heap.size len cap a zs (by omega) w1 (by omega) (by omega) HF.out HC.out (hI.out.below B1.out))
    (fun h k => h.trans k) (fun W l o o' hl ho hc hw => ⟨belowK_b (w := w1) (by omega) W l o o' hl ho hc hw, World.putObj_heap_other (by omega)⟩) (Below.refl _ _) (fun _ => rfl)
    (ValI w.heap.size (w.heap.size + 2) (w.heap.size + 1) f w) (fun _ _ _ => False)
    (valI_from _ _ _ _ f w (by omega) (by omega) (by omega)) (fun _ _ _ _ _ hs _ _ => hs)
    ⟨⟨_, I1.out, World.ownsRow_nil _ _ _ _, by simp⟩, HF.out, B1.out⟩
    (fun x => { tmps := #[fmtV f, .slice a len cap, .pointer (some ⟨w.heap.size, 0, none⟩), undef, .slice none 0 0, .pointer (some ⟨w.heap.size + 1, 0, none⟩), .int .i64 x, fmtV f, .slice a len cap, .func (.func 134) #[] #[.pointer (some ⟨w.heap.size + 2 + 1, 0, none⟩), .pointer (some ⟨w.heap.size + 2, 0, none⟩)], .int .i64 x, undef, undef, undef, undef, undef], defers := [] }) ?assign ?body ?done ?stop
  case assign =>
    intro l x W K hK
    gi_wp2
    exact hK
  case body =>
    rintro l pre x W ⟨⟨v, hv, hrow, hnil⟩, hV, hB⟩ hlt
    have hc := hv.cell
    have HV := hide hV
    have HB := hide hB
    have hsz := hB.size
    clear hV hB hnil
    have hzz := hide hz
    clear hz hlz
    gi_wp2_with (gi_at_builtin; refine wpListIn_append_own _ rfl _ _ 32 rfl w.heap.size 3 i0 (.int .i64 0) 1 8 Try.underlying32 hi hz0 hz1 hz2 rfl (by decide) _ _ _ rfl (hrow.alloc _) ⟨W.heap.size, 0, none⟩ 1 1 [.int .i64 x] rfl rfl (cell_one_new _ _ _) (by simp [Value.oneCell']) (by unfold maxLen; omega) (by omega) (by simp; omega) ?_; intro v' w1 hown' hgrow _; obtain ⟨g', cap', rfl⟩ := ownsRow_succ hown'; obtain ⟨hv1, hv2, hr2, hk2, hb2⟩ := hv.appended (by decide) hrow hsz (by omega) hown' hgrow; have hc1 := hv1.cell; have hf1 := hv1.frozen)
    have hVl : w.heap.size + 2 < W.heap.size := (Array.getElem?_eq_some_iff.1 HV.out).1
    have hV3 : w1.heap[w.heap.size + 2]? = W.heap[w.heap.size + 2]? := by
      refine (hgrow.block _ (by simp; omega) fun e => ?_).trans (Below.heap_alloc _ _ _ hVl)
      obtain ⟨c, h3⟩ := own_kind hrow _ e.symm
      rw [HV.out] at h3
      cases h3
    have hV4 := (Below.heap_setCell w1 ⟨w.heap.size + 1, 0, none⟩ (.slice (some ⟨g', 0, none⟩) (pre.length + 1) cap') (w.heap.size + 2) (by simp)).trans hV3
    refine ⟨hk2.from _, ⟨hb2, hV4⟩, ⟨_, hv2, ?_, by simp⟩, hV4.trans HV.out, HB.out.trans hb2⟩
    rw [List.length_append, List.map_append]
    exact hr2
  case done =>
    rintro D ys W hD rfl ⟨⟨v, hv, hrow, hnil⟩, hV, hB⟩ hK
    have hc := hv.cell
    have HBW := hide hB
    have HK := hide hK
    have HN := hide hnil
    clear hV hB hK hnil
    gi_wp2_with fail
    refine ⟨by simp, .inl ⟨_, _, rfl, run_takeDeferred HK.out, ?_⟩⟩
    refine ⟨_, results_tmp rfl _ _ _, v, rfl, ?_, HBW.out.trans (belowK_b (w := w) (Nat.le_refl _) W D _ _ (by omega) HK.out rfl rfl)⟩
    have := ownsRow_putObj hrow (.deferred none) HK.out rfl
    rwa [List.length_map, hlz] at this
  case stop =>
    rintro D c pre W _ _ h _
    exact h.elim

end Go.Proofs.Ytodlpofpeoiedaa

/-
  plain's play: the document's example goes well.
-/
namespace Go.Proofs.Ytodlpofpeoiedaa
open Go.RowKit Go.Sort

set_option maxHeartbeats 1600000 in
set_option maxRecDepth 100000 in
theorem works23_walk (w : World)
    (K26 : Hid (∀ w, Calls Try.prog 26 #[.agg #[.int .i64 32, .int .i64 24, .bool false, .bool true, .int .i64 255, .int .i64 255, .int .i64 255, .int .i64 16, .int .i64 8, .int .i64 0], .int .i64 1, .int .i64 1, .string ⟨#[3, 2, 1, 0, 120]⟩] w fun e w' =>
      ∃ g cap, e = .returned (.tuple #[.slice (some ⟨g, 0, none⟩) 1 cap, .int .i64 4, .int .i64 0]) ∧ g < w'.heap.size ∧ w'.cell? ⟨g, 0 + 0, none⟩ = some (.int .i64 66051) ∧ Below w.heap.size w w'))
    (K25 : Hid (∀ b cap w, w.cell? ⟨b, 0, none⟩ = some (.int .i64 66051) → b < w.heap.size → Calls Try.prog 25 #[.agg #[.int .i64 32, .int .i64 24, .bool false, .bool true, .int .i64 255, .int .i64 255, .int .i64 255, .int .i64 16, .int .i64 8, .int .i64 0], .slice (some ⟨b, 0, none⟩) 1 cap] w fun e w' => e = .returned (.string ⟨#[3, 2, 1, 0]⟩) ∧ Below w.heap.size w w')) :
    Calls Try.prog 23 #[] w fun e w' => e = .returned (.bool true) ∧ Below w.heap.size w w' := by
  go_enter Try.func23, Try.ntmps23
  go_wp2_with fail
  refine (standard_any _).mono ?_
  rintro e w1 ⟨rfl, hb1⟩
  have B1 := hide hb1
  clear hb1
  go_wp2_with fail
  refine (K26.out _).mono ?_
  rintro e w2 ⟨g, cap, rfl, hg, hc, hb2⟩
  have F2 := hide ((Blk.new w1 23 (fmtC standF)).below hb2)
  have B2 := hide ((B1.out.alloc B1.out.size _).trans (hb2.mono (by rw [World.size_alloc]; exact Nat.le_succ_of_le B1.out.size)))
  have HC := hide hc
  clear hc hb2
  go_wp2_with fail
  refine (row_walk g 0 w2.heap.size 0 1 cap 1 [66051] [66051] _ rfl rfl (by decide) (by simp; omega) (by simp) (hide fun j hj => ?_) (hide fun j hj => ?_)).mono ?_
  · obtain rfl : j = 0 := by omega
    rw [((Below.refl w2.heap.size w2).alloc (Nat.le_refl _) _).cell (p := ⟨g, 0 + 0, none⟩) hg]
    exact HC.out
  · obtain rfl : j = 0 := by omega
    exact (Blk.new w2 3 #[.int .i64 66051]).cell 0
  rintro e w3 ⟨rfl, hb3⟩
  have F3 := hide ((F2.out.alloc _).below hb3)
  have B3 := hide ((B2.out.alloc B2.out.size _).trans (hb3.mono (by rw [World.size_alloc]; exact Nat.le_succ_of_le B2.out.size)))
  clear hb3
  have f0 : w3.cell? ⟨w1.heap.size, 0, none⟩ = some (.int .i64 32) := F3.out.cell 0
  have f1 : w3.cell? ⟨w1.heap.size, 1, none⟩ = some (.int .i64 24) := F3.out.cell 1
  have f2 : w3.cell? ⟨w1.heap.size, 2, none⟩ = some (.bool false) := F3.out.cell 2
  have f3 : w3.cell? ⟨w1.heap.size, 3, none⟩ = some (.bool true) := F3.out.cell 3
  have f4 : w3.cell? ⟨w1.heap.size, 4, none⟩ = some (.int .i64 255) := F3.out.cell 4
  have f5 : w3.cell? ⟨w1.heap.size, 5, none⟩ = some (.int .i64 255) := F3.out.cell 5
  have f6 : w3.cell? ⟨w1.heap.size, 6, none⟩ = some (.int .i64 255) := F3.out.cell 6
  have f7 : w3.cell? ⟨w1.heap.size, 7, none⟩ = some (.int .i64 16) := F3.out.cell 7
  have f8 : w3.cell? ⟨w1.heap.size, 8, none⟩ = some (.int .i64 8) := F3.out.cell 8
  have f9 : w3.cell? ⟨w1.heap.size, 9, none⟩ = some (.int .i64 0) := F3.out.cell 9
  go_wp2_with fail
  refine (K25.out w3.heap.size 1 _ ((Blk.new w3 3 #[.int .i64 66051]).cell 0) (by simp)).mono ?_
  rintro e w4 ⟨rfl, hb4⟩
  have B4 := hide ((B3.out.alloc B3.out.size _).trans (hb4.mono (by rw [World.size_alloc]; exact Nat.le_succ_of_le B3.out.size)))
  clear hb4
  go_wp2_with fail
  go_ret
  exact ⟨rfl, B4.out⟩

theorem stand_fit : standF.fit := by unfold Fmt.fit standF; exact ⟨by decide, by decide, by decide⟩
theorem stand_fits : fitsB standF 1 1 = true := by kernel_rfl
theorem stand_size : sizeN standF = 4 := by kernel_rfl
theorem stand_pix : pixL standF ⟨#[3, 2, 1, 0, 120]⟩ 1 = [66051] := by kernel_rfl
theorem stand_raw : rawB standF [66051] = ⟨#[3, 2, 1, 0]⟩ := by kernel_rfl

/-- miradorlaw16.works: the play goes well. -/
theorem works23_any (w : World) : Calls Try.prog 23 #[] w fun e w' => e = .returned (.bool true) ∧ Below w.heap.size w w' := by
  refine works23_walk w (hide fun w => ?_) (hide fun b cap w hc hb => ?_)
  · refine (rawOf_yes standF 1 1 1 ⟨#[3, 2, 1, 0, 120]⟩ w stand_fit stand_fits (by decide) (by rw [stand_size]; decide) (by decide)).mono ?_
    rintro e w' ⟨v, rfl, ho, hb⟩
    rw [stand_pix] at ho
    rw [stand_size]
    obtain ⟨g, cap, rfl⟩ := ownsRow_succ (k := 0) ho
    refine ⟨g, cap, rfl, ?_, ?_, hb⟩
    · obtain ⟨c, hc⟩ := own_kind ho g rfl
      exact (Array.getElem?_eq_some_iff.1 hc).1
    · exact ho.cellAt 0 (by decide)
  · have := raw_any standF (some ⟨b, 0, none⟩) 1 cap [66051] w stand_fit (by decide) ⟨rfl, .inr ⟨b, 0, rfl, hb, fun j hj => ?_⟩⟩
    · rw [stand_raw] at this
      exact this
    · obtain rfl : j = 0 := by omega
      exact hc

end Go.Proofs.Ytodlpofpeoiedaa
