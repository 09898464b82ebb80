/-
  plain.values and plain.Raw: colours' values, one after the other, and their bytes.
-/
import Derived.RangeFuncWrites
import Derived.Maps.AppendAt
import Derived.Test.YtodlpofpeoiedaaCB
namespace Go.Proofs.Ytodlpofpeoiedaa
open Go.RowKit Go.Shelf Go.Sort

attribute [local go_sem] Oper.semAt_some

/-- A colour's value, whatever the format. -/
def valA (f : Fmt) (c : Int) : Int := if validB f then valV f c else 0

set_option maxHeartbeats 1600000 in
set_option maxRecDepth 100000 in
theorem value_no (f : Fmt) (c : Int) (w : World) (K17 : Hid (∀ w, Calls Try.prog 17 #[fmtV f] w fun e w' => e = .returned (.bool false) ∧ Below w.heap.size w w')) :
    Calls Try.prog 39 #[fmtV f, .int .i64 c] w fun e w' => e = .returned (.int .i64 0) ∧ Below w.heap.size w w' := by
  go_enter Try.func39, Try.ntmps39
  go_wp2_with fail
  refine (K17.out _).mono ?_
  rintro e w1 ⟨rfl, hb1⟩
  have HB := hide (((Below.refl _ _).alloc (Nat.le_refl _) _).trans (hb1.mono (by simp)))
  clear hb1
  go_wp2_with fail
  go_ret
  exact ⟨rfl, HB.out⟩

theorem value_all (f : Fmt) (c : Int) (w : World) (hf : f.fit) :
    Calls Try.prog 39 #[fmtV f, .int .i64 c] w fun e w' => e = .returned (.int .i64 (valA f c)) ∧ Below w.heap.size w w' := by
  cases h : validB f with
  | true =>
    have e : valA f c = valV f c := by simp [valA, h]
    rw [e]
    exact value_any f c w h
  | false =>
    have e : valA f c = 0 := by simp [valA, h]
    rw [e]
    exact value_no f c w (fun w => by have := valid_fit f w hf; rwa [h] at this)

/-- A row of numbers that lies below n₀. -/
def IntsIn (n₀ : Nat) (W : World) (a : Option Addr) (n : Nat) (zs : List Int) : Prop :=
  zs.length = n ∧ (n = 0 ∨ ∃ b off, a = some ⟨b, off, none⟩ ∧ b < n₀ ∧ ∀ j, j < n → W.cell? ⟨b, off + j, none⟩ = some (.int .i64 (zs[j]?.getD 0)))

theorem IntsIn.below {n₀ : Nat} {A B : World} {a : Option Addr} {n : Nat} {zs : List Int} (h : IntsIn n₀ A a n zs) (hb : Below n₀ A B) : IntsIn n₀ B a n zs :=
  ⟨h.1, h.2.imp id fun ⟨b, off, e, hlt, hc⟩ => ⟨b, off, e, hlt, fun j hj => (hb.cell (p := ⟨b, off + j, none⟩) hlt).trans (hc j hj)⟩⟩

set_option maxRecDepth 100000 in
set_option maxHeartbeats 1000000 in
theorem values1_zero (F : Fence) (n : Nat) (h134 : F.fn 134) (hro : F.round = none) (l Bs Bf cap : Nat) (a : Option Addr) (J : List Int → World → Prop) (W : World) (hBs : W.cell? ⟨Bs, 0, none⟩ = some (.slice a 0 cap)) (h0 : J [] W) :
    CallsIn F n Try.prog 134 #[.func (.yield l) #[] #[], .pointer (some ⟨Bs, 0, none⟩), .pointer (some ⟨Bf, 0, none⟩)] W fun e W' => (∃ v, e = .returned v) ∧ J [] W' := by
  refine callsIn_of_wp Try.func134 rfl h134 ?_ hro
  simp only [Try.ntmps134, List.size_toArray, List.length_cons, List.length_nil, Nat.reduceAdd, Nat.reduceSub, Array.replicate_succ, Array.replicate_zero, List.push_toArray, List.append_toArray, List.nil_append, List.cons_append]
  gi_wp2
  gi_loopw [8] (fun i wr => i = .int .i64 0 ∧ J [] wr) (fun _ _ => 0)
  case atStart => exact ⟨rfl, h0⟩
  case round =>
    obtain ⟨rfl, hJs⟩ := hrel
    gi_wp2
    go_end0
    exact ⟨⟨_, rfl⟩, hJs⟩

/-- What plain.values hands back, to range over. -/
theorem values_stops (n : Nat) (hn : 1 ≤ n) (f : Fmt) (hf : f.fit) (Bs Bf n₀ len cap : Nat) (a : Option Addr) (zs : List Int) (hreach : len * 8 ≤ 140737488351232) (w : World) (hBs : Bs < w.heap.size) (hn₀ : n₀ ≤ w.heap.size)
    (hF : Blk Bf 23 (fmtC f) w) (hc : w.cell? ⟨Bs, 0, none⟩ = some (.slice a len cap)) (hI : IntsIn n₀ w a len zs) :
    SeqStopsK Fence.wide n Try.prog 134 #[.pointer (some ⟨Bs, 0, none⟩), .pointer (some ⟨Bf, 0, none⟩)] (fun x : Int => #[Value.int .i64 x]) (KeepB n₀ Bf) (fun ys => ys = zs.map (valA f)) (fun _ => True) len w := fun l J Jx W hW hJ _ hY h0 => by
  have hc' := (hW.cell (p := ⟨Bs, 0, none⟩) hBs).trans hc
  have hF' : Blk Bf 23 (fmtC f) W := (hW.block Bf (Array.getElem?_eq_some_iff.1 hF).1).trans hF
  obtain ⟨hl, rfl | ⟨b, off, rfl, hb, hcs⟩⟩ := hI.below (hW.mono hn₀)
  · obtain rfl := List.length_eq_zero_iff.1 hl
    exact (values1_zero Fence.wide n trivial rfl l Bs Bf cap a J W hc' h0).mono fun e W' ⟨he, hj⟩ => ⟨he, .inl ⟨_, rfl, hj⟩⟩
  · refine (values1_in Fence.wide n trivial trivial rfl hn l Bs Bf n₀ b off len cap f zs (fun j => valA f (zs[j]?.getD 0)) hreach hb J Jx
      (fun j _ w => callsIn_wide.2 (value_all f _ w hf)) (fun pre A B hA hAB => hJ pre A B none hA ⟨hAB.os, hAB.tape, hAB.output, hAB.size, fun k hk _ => hAB.block k hk⟩ (fun _ e => by cases e)) hY W (Nat.le_trans hn₀ hW.size) hc' hF' hcs h0).mono ?_
    rintro e W' ⟨he, ⟨ys, rfl, hj⟩ | ⟨pre, ⟨k, hk, rfl⟩, hj⟩⟩
    · refine ⟨he, .inl ⟨_, ?_, hj⟩⟩
      apply List.ext_getElem
      · rw [upto_length, List.length_map, hl]
      · intro i h1 h2
        have : i < zs.length := by simpa using h2
        simp [upto, this]
    · exact ⟨he, .inr ⟨_, trivial, hj⟩⟩

set_option maxHeartbeats 1600000 in
set_option maxRecDepth 100000 in
/-- plain.values: both are boxed. -/
theorem values_mk (f : Fmt) (a : Option Addr) (len cap : Nat) (w : World) :
    Calls Try.prog 87 #[fmtV f, .slice a len cap] w fun e w' => e = .returned (.func (.func 134) #[] #[.pointer (some ⟨w.heap.size + 1, 0, none⟩), .pointer (some ⟨w.heap.size, 0, none⟩)]) ∧
      (w'.heap.size = w.heap.size + 2 ∧ Blk w.heap.size 23 (fmtC f) w' ∧ w'.cell? ⟨w.heap.size + 1, 0, none⟩ = some (.slice a len cap) ∧ Below w.heap.size w w') := by
  have F0 := hide (Blk.new w 23 (fmtC f))
  have B0 := hide ((Below.refl w.heap.size w).alloc (Nat.le_refl _) (.cells (fmtC f) 23))
  have Z0 := hide (World.size_alloc w (.cells (fmtC f) 23))
  go_enter Try.func87, Try.ntmps87
  go_wp2_with fail
  go_ret
  refine ⟨rfl, by simp, ?_, ?_, ?_⟩
  · exact (Below.heap_alloc _ _ _ (by simp)).trans F0.out
  · have := (Blk.new (w.alloc (.cells (fmtC f) 23)) 32 #[.slice a len cap]).cell 0
    rw [World.size_alloc] at this
    exact this
  · exact B0.out.alloc (by simp) _

end Go.Proofs.Ytodlpofpeoiedaa
