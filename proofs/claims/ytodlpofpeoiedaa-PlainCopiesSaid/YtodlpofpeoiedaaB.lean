/-
  The contracts of octets.turned, Put and Signed.
-/
import Derived.Test.YtodlpofpeoiedaaA
namespace Go.Proofs.Ytodlpofpeoiedaa
open Go.RowKit Go.Lib Go.Sort

theorem nums_back (l : List UInt8) : strOfNums (l.map fun b => (b.toNat : Int)) = ⟨l.toArray⟩ := by
  rw [strOfNums_mk]
  congr 2
  rw [List.map_map]
  conv => rhs; rw [← List.map_id l]
  apply List.map_congr_left
  intro b _
  simp

theorem putRow_below {α : Type} [Inhabited α] (enc : α → Value) (B : Nat) (w : World) (n blk off : Nat) (d : Array α) (h : B ≤ blk) : Below B w (putRow enc (Sort.ahead w n) blk off d) := by
  refine ⟨rfl, rfl, rfl, ?_, fun k hk => ?_⟩
  · simp [putRow, mapBlock, Sort.ahead]
  · simp only [putRow, mapBlock, Sort.ahead, Array.getElem?_modify]
    rw [if_neg (by omega)]

theorem bytesWorld_below (w : World) (e : TypeId) (s : ByteArray) : Below w.heap.size w (bytesWorld w e s) := by
  refine ⟨?_, ?_, ?_, ?_, fun k hk => bytesWorld_at_old w e s k hk⟩
  · simp [bytesWorld, World.freeze, World.alloc, World.drew, -World.alloc_eq, -World.drew_eq]
  · simp [bytesWorld, World.freeze, World.alloc, World.drew, -World.alloc_eq, -World.drew_eq]
  · simp [bytesWorld, World.freeze, World.alloc, World.drew, -World.alloc_eq, -World.drew_eq]
  · rw [bytesWorld_size]; omega

/-- slices.Reverse of the bytes of a string, and what these are as a string behind it. -/
theorem reverse_bytes (s : ByteArray) (w : World) (hs : s.size ≤ 9223372036854775807) :
    Calls Try.prog 140 #[.slice (some ⟨w.heap.size, 0, none⟩) s.size (grownCap w s.size 0 5)] (bytesWorld w 5 s) fun e w' => e = .returned (.tuple #[]) ∧ Below w.heap.size w w' ∧
      (convert 114 9 (.slice (some ⟨w.heap.size, 0, none⟩) s.size (grownCap w s.size 0 5))).run Try.prog w' = .ok (.string ⟨s.data.reverse⟩) w' := by
  have hd : (s.data.map fun b => (b.toNat : Int)).size = s.size := by rw [Array.size_map]; rfl
  have hH : Holds encU8 (bytesWorld w 5 s) w.heap.size 0 (s.data.map fun b => (b.toNat : Int)) := by
    intro j hj
    rw [hd] at hj
    have hj' : j < s.data.size := hj
    refine ⟨?_, ?_⟩
    · rw [Nat.zero_add, bytesWorld_cell w 5 s j hj]
      rw [getElem!_pos _ _ (by simpa using hj')]
      simp [List.getD]
      rw [Array.getElem?_eq_getElem hj']
      rfl
    · simp only [World.frozen?, bytesWorld_at_new, Nat.zero_add]
      have : s.size ≤ (bytesCells w 5 s).size := by
        show s.data.size ≤ _
        rw [bytesCells, Array.size_append, Array.size_map]
        omega
      simp
      omega
  have h := reverse_any w.heap.size 0 (grownCap w s.size 0 5) _ (bytesWorld w 5 s) hH (by rw [hd]; exact hs)
  rw [hd] at h
  refine h.mono fun e w' ⟨he, n, hw⟩ => ⟨he, ?_, ?_⟩
  · subst hw
    exact (bytesWorld_below w 5 s).trans (putRow_below _ _ _ _ _ _ _ (Nat.le_refl _))
  · have hh : Holds encU8 w' w.heap.size 0 (s.data.map fun b => (b.toNat : Int)).reverse := by
      rw [hw]
      exact holds_putRow encU8 _ _ 0 _ _ (holds_ahead encU8 _ n _ 0 _ hH) (by simp)
    have e1 : (⟨s.data.reverse⟩ : ByteArray) = strOfNums (s.data.toList.reverse.map fun b => (b.toNat : Int)) := by
      rw [nums_back]
      congr 1
      apply Array.ext'
      simp
    rw [e1]
    refine run_convert_bytes_arg w' 114 5 Try.underlying114 Try.underlying5 _ 0 _ _ _ (by rw [List.length_map, List.length_reverse]; rfl) ?_ 9 Try.underlying9
    intro i hi
    have hi' : i < s.data.size := hi
    have := (hh i (by simpa using hi')).1
    rw [this, getElem!_pos _ _ (by simpa using hi'), List.getD_eq_getElem?_getD, List.getElem?_eq_getElem (by simpa using hi'), Option.getD_some]
    simp

set_option maxHeartbeats 400000 in
set_option maxRecDepth 100000 in
/-- octets.turned: a text the other way round. -/
theorem turned_any (s : ByteArray) (w : World) (hs : s.size ≤ 9223372036854775807) :
    Calls Try.prog 126 #[.string s] w fun e w' => e = .returned (.string ⟨s.data.reverse⟩) ∧ Below w.heap.size w w' := by
  have hcb := fun (w : World) (s : ByteArray) => Lib.run_convert_string_bytes (P := Try.prog) w 9 114 5 s (u := .string) Try.underlying9 Try.underlying114 Try.underlying5
  have HS := hide hs
  clear hs
  go_enter Try.func126, Try.ntmps126
  go_wp2_with (go_at_call 140; refine (reverse_bytes s w HS.out).mono ?_; rintro e w' ⟨rfl, hb, hcv⟩)
  go_ret
  exact ⟨rfl, by assumption⟩

theorem beB_rev (k : Nat) (n : Int) : (⟨(leB k n).data.reverse⟩ : ByteArray) = beB k n := by
  simp [leB, beB, strOfNums_mk]

theorem leB_size (k : Nat) (n : Int) : (leB k n).size = k := by
  rw [leB, strOfNums_size, leI_length]

set_option maxHeartbeats 400000 in
/-- octets.Put at one, two, four bytes. -/
theorem put_any (k : Nat) (hk : k = 1 ∨ k = 2 ∨ k = 4) (n : Int) (w : World) :
    Calls Try.prog 83 #[.int .i64 k, .int .i64 n] w fun e w' => e = .returned (.tuple #[.string (putS k n), .int .i64 (putE k n)]) ∧ Below w.heap.size w w' := by
  have hsz : (if putFits k n then leB k n else ⟨#[]⟩ : ByteArray).size ≤ 9223372036854775807 := by
    split
    · rw [leB_size]; omega
    · simp [ByteArray.size]
  have hrv : (⟨(if putFits k n then leB k n else ⟨#[]⟩ : ByteArray).data.reverse⟩ : ByteArray) = putS k n := by
    unfold putS
    split
    · exact beB_rev k n
    · rfl
  have hl := little_any k hk n w
  generalize (if putFits k n then leB k n else ⟨#[]⟩ : ByteArray) = s at *
  generalize putE k n = ee at *
  have HR := hide hrv
  clear hrv
  have HL := hide hl
  clear hl
  have HZ := hide hsz
  clear hsz
  go_enter Try.func83, Try.ntmps83
  go_wp2_with (first | (go_at_call 131; refine HL.out.mono ?_; rintro e w1 ⟨rfl, hb1⟩) | (go_at_call 126; refine (turned_any s _ HZ.out).mono ?_; rintro e w2 ⟨rfl, hb2⟩))
  go_ret2
  exact ⟨by rw [HR.out]; rfl, hb1.trans (hb2.mono hb1.size)⟩

end Go.Proofs.Ytodlpofpeoiedaa
