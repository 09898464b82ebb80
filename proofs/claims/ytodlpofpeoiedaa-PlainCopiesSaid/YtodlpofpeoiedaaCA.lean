/-
  plain.values: colours' values, one after the other (a function to range over), after the kit's worked text on slices' iterators.
-/
import Derived.RangeFuncBox
import Derived.RangeFuncNested
import Derived.RangeFuncBound
import Derived.RangeFuncCalls
import Derived.RangeFuncLeaves
import Derived.Shelf.Abstract
import Derived.Shelf.RegionOpen
import Derived.OwnWalkIn
import Derived.TacticsInMore
import Derived.LoopNIn
import Derived.LoopIn
import Derived.Test.YtodlpofpeoiedaaBJ
namespace Go.Proofs.Ytodlpofpeoiedaa
open Go.RowKit Go.Shelf Go.Sort

attribute [local go_sem] Oper.semAt_some

/-- What has come when k rounds are over. -/
def upto {α : Type} (f : Nat → α) (k : Nat) : List α := (List.range k).map f
theorem upto_succ {α : Type} (f : Nat → α) (k : Nat) : upto f (k + 1) = upto f k ++ [f k] := by simp [upto, List.range_succ]
theorem upto_length {α : Type} (f : Nat → α) (k : Nat) : (upto f k).length = k := by simp [upto]

/-- What a round must keep: what lay below n₀, and one block more (the format's box). -/
def KeepB (n₀ k : Nat) (W W' : World) : Prop := Below n₀ W W' ∧ W'.heap[k]? = W.heap[k]?
theorem KeepB.refl (n₀ k : Nat) (W : World) : KeepB n₀ k W W := ⟨Below.refl _ _, rfl⟩
theorem KeepB.trans {n₀ k : Nat} {A B C : World} (h : KeepB n₀ k A B) (g : KeepB n₀ k B C) : KeepB n₀ k A C := ⟨h.1.trans g.1, g.2.trans h.2⟩
theorem KeepB.of {n₀ k : Nat} {A B : World} (h : Below A.heap.size A B) (h1 : n₀ ≤ A.heap.size) (h2 : k < A.heap.size) : KeepB n₀ k A B := ⟨h.mono h1, h.block k h2⟩

set_option maxRecDepth 100000 in
set_option maxHeartbeats 2000000 in
theorem values1_in (F : Fence) (n : Nat) (h134 : F.fn 134) (h39 : F.fn 39) (hro : F.round = none) (hn : 1 ≤ n) (l Bs Bf n₀ b off len cap : Nat) (f : Fmt) (zs : List Int) (u : Nat → Int) (hreach : len * 8 ≤ 140737488351232) (hb : b < n₀) (J Jx : List Int → World → Prop)
    (K39 : Hid (∀ j, j < len → ∀ w, CallsIn F (n - 1) Try.prog 39 #[fmtV f, .int .i64 (zs[j]?.getD 0)] w fun e w' => e = .returned (.int .i64 (u j)) ∧ Below w.heap.size w w'))
    (hJb : ∀ pre W W', J pre W → Below W.heap.size W W' → J pre W')
    (hY : ∀ pre x W, J pre W → pre.length < len → YieldAt F (n - 1) Try.prog l #[.int .i64 x] W fun e W' =>
      (e = .returned (.bool true) ∧ J (pre ++ [x]) W' ∧ KeepB n₀ Bf W W') ∨ (e = .returned (.bool false) ∧ Jx (pre ++ [x]) W'))
    (W : World) (hn₀ : n₀ ≤ W.heap.size) (hBs : W.cell? ⟨Bs, 0, none⟩ = some (.slice (some ⟨b, off, none⟩) len cap)) (hF : Blk Bf 23 #[.int .i64 f.bits, .int .i64 f.depth, .bool f.big, .bool f.tru, .int .i64 f.rm, .int .i64 f.gm, .int .i64 f.bm, .int .i64 f.rs, .int .i64 f.gs, .int .i64 f.bs] W)
    (hc : ∀ j, j < len → W.cell? ⟨b, off + j, none⟩ = some (.int .i64 (zs[j]?.getD 0))) (h0 : J [] W) :
    CallsIn F n Try.prog 134 #[.func (.yield l) #[] #[], .pointer (some ⟨Bs, 0, none⟩), .pointer (some ⟨Bf, 0, none⟩)] W fun e W' => (∃ v, e = .returned v) ∧
      ((∃ ys, ys = upto u len ∧ J ys W') ∨ (∃ pre, (∃ k, k ≤ len ∧ pre = upto u k) ∧ Jx pre W')) := by
  refine callsIn_of_wp Try.func134 rfl h134 ?_ hro
  simp only [Try.ntmps134, List.size_toArray, List.length_cons, List.length_nil, Nat.reduceAdd, Nat.reduceSub, Array.replicate_succ, Array.replicate_zero, List.push_toArray, List.append_toArray, List.nil_append, List.cons_append]
  gi_wp2
  gi_loopw [8] (fun i wr => ∃ k : Nat, k ≤ len ∧ i = .int .i64 k ∧ J (upto u k) wr ∧ KeepB n₀ Bf W wr)
    (fun i _ => len - (intOf i).toNat)
  case atStart => exact ⟨0, Nat.zero_le _, rfl, h0, KeepB.refl _ _ _⟩
  case round =>
    obtain ⟨k, hk, rfl, hJs, hnx⟩ := hrel
    by_cases hlt : k < len
    · have hcx : wr.cell? ⟨b, off + k, none⟩ = some (.int .i64 (zs[k]?.getD 0)) := (hnx.1.cell (p := ⟨b, off + k, none⟩) hb).trans (hc k hlt)
      have hFr : Hid (Blk Bf 23 #[.int .i64 f.bits, .int .i64 f.depth, .bool f.big, .bool f.tru, .int .i64 f.rm, .int .i64 f.gm, .int .i64 f.bm, .int .i64 f.rs, .int .i64 f.gs, .int .i64 f.bs] wr) := hide (hnx.2.trans hF)
      have KK := hide (K39.out k hlt wr)
      have HJ := hide hJs
      have HN := hide hnx
      have hsz : n₀ ≤ wr.heap.size := Nat.le_trans hn₀ hnx.1.size
      have hsf : Bf < wr.heap.size := (Array.getElem?_eq_some_iff.1 hFr.out).1
      clear hJs hnx
      have f0 : wr.cell? ⟨Bf, 0, none⟩ = some (.int .i64 f.bits) := hFr.out.cell 0
      have f1 : wr.cell? ⟨Bf, 1, none⟩ = some (.int .i64 f.depth) := hFr.out.cell 1
      have f2 : wr.cell? ⟨Bf, 2, none⟩ = some (.bool f.big) := hFr.out.cell 2
      have f3 : wr.cell? ⟨Bf, 3, none⟩ = some (.bool f.tru) := hFr.out.cell 3
      have f4 : wr.cell? ⟨Bf, 4, none⟩ = some (.int .i64 f.rm) := hFr.out.cell 4
      have f5 : wr.cell? ⟨Bf, 5, none⟩ = some (.int .i64 f.gm) := hFr.out.cell 5
      have f6 : wr.cell? ⟨Bf, 6, none⟩ = some (.int .i64 f.bm) := hFr.out.cell 6
      have f7 : wr.cell? ⟨Bf, 7, none⟩ = some (.int .i64 f.rs) := hFr.out.cell 7
      have f8 : wr.cell? ⟨Bf, 8, none⟩ = some (.int .i64 f.gs) := hFr.out.cell 8
      have f9 : wr.cell? ⟨Bf, 9, none⟩ = some (.int .i64 f.bs) := hFr.out.cell 9
      gi_wp2_with (gi_at_call 39; refine KK.out.mono ?_; rintro e w3 ⟨rfl, hb3⟩)
      have HJ3 := hJb _ _ _ HJ.out hb3
      have HN3 := hide (HN.out.trans (KeepB.of hb3 hsz hsf))
      obtain ⟨fn, tmps, assign, body, hy, hR⟩ := hY _ (u k) w3 HJ3 (by rw [upto_length]; exact hlt)
      clear hb3
      rw [hy]
      rw [Oper.uponIn_round]
      refine ⟨fun _ => hn, hR.mono ?_⟩
      rintro e W3 (⟨rfl, hJ3, hk3⟩ | ⟨rfl, hJx3⟩)
      · gi_wp2
        go_roundw
        case rel => exact ⟨k + 1, by omega, by simp, by rw [upto_succ]; exact hJ3, HN3.out.trans hk3⟩
        case measure => simp [intOf]; omega
      · gi_wp2
        refine bodyPost_ret (results_none rfl _ _ _) rfl ?_
        exact ⟨⟨_, rfl⟩, .inr ⟨_, ⟨k + 1, by omega, (upto_succ _ _).symm⟩, hJx3⟩⟩
    · obtain rfl : k = len := by omega
      gi_wp2
      go_end0
      exact ⟨⟨_, rfl⟩, .inl ⟨_, rfl, hJs⟩⟩

end Go.Proofs.Ytodlpofpeoiedaa
