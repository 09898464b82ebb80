/-
  The contracts of octets.Cursor's numbers (number, Int), At, Err, New.
-/
import Derived.Test.YtodlpofpeoiedaaD
namespace Go.Proofs.Ytodlpofpeoiedaa
open Go.RowKit

theorem rev_size (s : ByteArray) : (⟨s.data.reverse⟩ : ByteArray).size = s.size := by
  show s.data.reverse.size = s.data.size
  exact Array.size_reverse

theorem byte_bd (b : UInt8) : 0 ≤ (b.toNat : Int) ∧ (b.toNat : Int) < 256 := by have := b.toNat_lt; omega

theorem bytesWorld_only (b : Nat) (w w1 : World) (h : Only b w w1) (s : ByteArray) : Only b w (Lib.bytesWorld w1 5 s) := h.trans (Only.of_below (bytesWorld_below w1 5 s))

/-- A list of bytes that is known to be so long. -/
theorem list1 (l : List UInt8) (h : l.length = 1) : ∃ a, l = [a] := by
  match l, h with
  | [a], _ => exact ⟨a, rfl⟩
theorem list2 (l : List UInt8) (h : l.length = 2) : ∃ a b, l = [a, b] := by
  match l, h with
  | [a, b], _ => exact ⟨a, b, rfl⟩
theorem list4 (l : List UInt8) (h : l.length = 4) : ∃ a b c d, l = [a, b, c, d] := by
  match l, h with
  | [a, b, c, d], _ => exact ⟨a, b, c, d, rfl⟩

theorem hcb (w : World) (s : ByteArray) : (convert 9 114 (.string s)).run Try.prog w = .ok (.slice (some ⟨w.heap.size, 0, none⟩) s.size (grownCap w s.size 0 5)) (Lib.bytesWorld w 5 s) :=
  Lib.run_convert_string_bytes (P := Try.prog) w 9 114 5 s (u := .string) Try.underlying9 Try.underlying114 Try.underlying5

theorem bw_heap (w : World) (s : ByteArray) (j : Nat) (hj : j < w.heap.size) : (Lib.bytesWorld w 5 s).heap[j]? = w.heap[j]? := Lib.bytesWorld_at_old w 5 s j hj

set_option maxHeartbeats 800000 in
set_option maxRecDepth 100000 in
theorem number_0 (b : Nat) (c : Cu) (k : Nat) (hk : k = 1 ∨ k = 2 ∨ k = 4) (w : World) (h : IsCur 163 b c w) (hok : c.ok) (hs : (c.out k).size = 0) :
    Calls Try.prog 125 #[.pointer (some ⟨b, 0, none⟩), .int .i64 k, .func (.func 126) #[] #[]] w fun en w' => en = .returned (.int .i64 (c.int k)) ∧ IsCur 163 b (c.bytes k) w' ∧ Only b w w' := by

  have hv : c.int k = 0 := by
    unfold Cu.int
    have : (c.out k).data.toList = [] := List.length_eq_zero_iff.1 (by rw [Array.length_toList]; exact hs)
    rw [this]
    rfl
  have HV := hide hv
  clear hv


  have hw := wide_yes k w (by omega)
  have hB := bytes_any b c k w h hok (by omega)
  have HS := hide hs
  have HB := hide hB
  have HW := hide hw
  have hsz : (⟨(c.out k).data.reverse⟩ : ByteArray).size = 0 := by rw [rev_size]; exact hs
  have HZ := hide hsz
  clear h hok hs hw hB hsz hk
  go_enter Try.func125, Try.ntmps125
  go_wp2_with (first | (go_at_call 142; refine HW.out.mono ?_; rintro e w0 ⟨rfl, rfl⟩) | (go_at_call 74; refine HB.out.mono ?_; rintro e w1 ⟨rfl, hc1, ho1⟩) | (go_at_call 126; refine (turned_any (c.out k) _ (by rw [HS.out]; decide)).mono ?_; rintro e w2 ⟨rfl, hb2⟩; have hcv := hcb w2 ⟨(c.out k).data.reverse⟩; rw [HZ.out] at hcv))
  refine wp_loop_rounds 1 ?_
  rw [rounds_succ]
  go_wp2
  go_ret
  refine ⟨by rw [HV.out]; rfl, ?_, ?_⟩
  · exact (hc1.keep hb2).keep (bytesWorld_below _ _ _)
  · exact bytesWorld_only _ _ _ (ho1.trans (Only.of_below hb2)) _

set_option maxHeartbeats 800000 in
set_option maxRecDepth 100000 in
theorem number_1 (b : Nat) (c : Cu) (k : Nat) (hk : k = 1 ∨ k = 2 ∨ k = 4) (w : World) (h : IsCur 163 b c w) (hok : c.ok) (hs : (c.out k).size = 1) :
    Calls Try.prog 125 #[.pointer (some ⟨b, 0, none⟩), .int .i64 k, .func (.func 126) #[] #[]] w fun en w' => en = .returned (.int .i64 (c.int k)) ∧ IsCur 163 b (c.bytes k) w' ∧ Only b w w' := by
  obtain ⟨x, hl⟩ := list1 (c.out k).data.toList (by rw [Array.length_toList]; exact hs)
  obtain ⟨bx0, bx1⟩ := byte_bd x
  have hv : c.int k = (x.toNat : Int) := by
    unfold Cu.int
    rw [hl]
    simp [beV]

  have HV := hide hv
  clear hv
  have o0 := or0 (x.toNat : Int) (by omega) (by omega)
  have hg0 : (⟨(c.out k).data.reverse⟩ : ByteArray).data.toList.getD 0 0 = x := by
    show (c.out k).data.reverse.toList.getD 0 0 = _
    rw [Array.toList_reverse, hl]
    rfl
  have HG0 := hide hg0
  clear hg0
  have hw := wide_yes k w (by omega)
  have hB := bytes_any b c k w h hok (by omega)
  have HS := hide hs
  have HB := hide hB
  have HW := hide hw
  have hsz : (⟨(c.out k).data.reverse⟩ : ByteArray).size = 1 := by rw [rev_size]; exact hs
  have HZ := hide hsz
  clear h hok hs hw hB hsz hk hl
  go_enter Try.func125, Try.ntmps125
  go_wp2_with (first | (go_at_call 142; refine HW.out.mono ?_; rintro e w0 ⟨rfl, rfl⟩) | (go_at_call 74; refine HB.out.mono ?_; rintro e w1 ⟨rfl, hc1, ho1⟩) | (go_at_call 126; refine (turned_any (c.out k) _ (by rw [HS.out]; decide)).mono ?_; rintro e w2 ⟨rfl, hb2⟩; have hcv := hcb w2 ⟨(c.out k).data.reverse⟩; rw [HZ.out] at hcv; have c0 := Lib.bytesWorld_cell w2 5 ⟨(c.out k).data.reverse⟩ 0 (by rw [rev_size, HS.out]; decide); rw [HG0.out] at c0))
  refine wp_loop_rounds 2 ?_
  rw [rounds_succ]
  go_wp2
  rw [rounds_succ]
  go_wp2
  go_ret
  refine ⟨by rw [HV.out]; rfl, ?_, ?_⟩
  · exact (hc1.keep hb2).keep (bytesWorld_below _ _ _)
  · exact bytesWorld_only _ _ _ (ho1.trans (Only.of_below hb2)) _

set_option maxHeartbeats 800000 in
set_option maxRecDepth 100000 in
theorem number_2 (b : Nat) (c : Cu) (k : Nat) (hk : k = 1 ∨ k = 2 ∨ k = 4) (w : World) (h : IsCur 163 b c w) (hok : c.ok) (hs : (c.out k).size = 2) :
    Calls Try.prog 125 #[.pointer (some ⟨b, 0, none⟩), .int .i64 k, .func (.func 126) #[] #[]] w fun en w' => en = .returned (.int .i64 (c.int k)) ∧ IsCur 163 b (c.bytes k) w' ∧ Only b w w' := by
  obtain ⟨x, y, hl⟩ := list2 (c.out k).data.toList (by rw [Array.length_toList]; exact hs)
  obtain ⟨bx0, bx1⟩ := byte_bd x
  obtain ⟨by0, by1⟩ := byte_bd y
  have hv : c.int k = (y.toNat : Int) + (x.toNat : Int) * 256 := by
    unfold Cu.int
    rw [hl]
    simp [beV]
    omega
  have HV := hide hv
  clear hv
  have o0 := or0 (y.toNat : Int) (by omega) (by omega)
  have o1 := or8 ((y.toNat : Int)) (x.toNat : Int) (by omega) (by omega) (by omega) (by omega)
  have hg0 : (⟨(c.out k).data.reverse⟩ : ByteArray).data.toList.getD 0 0 = y := by
    show (c.out k).data.reverse.toList.getD 0 0 = _
    rw [Array.toList_reverse, hl]
    rfl
  have HG0 := hide hg0
  clear hg0
  have hg1 : (⟨(c.out k).data.reverse⟩ : ByteArray).data.toList.getD 1 0 = x := by
    show (c.out k).data.reverse.toList.getD 1 0 = _
    rw [Array.toList_reverse, hl]
    rfl
  have HG1 := hide hg1
  clear hg1
  have hw := wide_yes k w (by omega)
  have hB := bytes_any b c k w h hok (by omega)
  have HS := hide hs
  have HB := hide hB
  have HW := hide hw
  have hsz : (⟨(c.out k).data.reverse⟩ : ByteArray).size = 2 := by rw [rev_size]; exact hs
  have HZ := hide hsz
  clear h hok hs hw hB hsz hk hl
  go_enter Try.func125, Try.ntmps125
  go_wp2_with (first | (go_at_call 142; refine HW.out.mono ?_; rintro e w0 ⟨rfl, rfl⟩) | (go_at_call 74; refine HB.out.mono ?_; rintro e w1 ⟨rfl, hc1, ho1⟩) | (go_at_call 126; refine (turned_any (c.out k) _ (by rw [HS.out]; decide)).mono ?_; rintro e w2 ⟨rfl, hb2⟩; have hcv := hcb w2 ⟨(c.out k).data.reverse⟩; rw [HZ.out] at hcv; have c0 := Lib.bytesWorld_cell w2 5 ⟨(c.out k).data.reverse⟩ 0 (by rw [rev_size, HS.out]; decide); rw [HG0.out] at c0; have c1 := Lib.bytesWorld_cell w2 5 ⟨(c.out k).data.reverse⟩ 1 (by rw [rev_size, HS.out]; decide); rw [HG1.out] at c1))
  refine wp_loop_rounds 3 ?_
  rw [rounds_succ]
  go_wp2
  rw [rounds_succ]
  go_wp2
  rw [rounds_succ]
  go_wp2
  go_ret
  refine ⟨by rw [HV.out]; rfl, ?_, ?_⟩
  · exact (hc1.keep hb2).keep (bytesWorld_below _ _ _)
  · exact bytesWorld_only _ _ _ (ho1.trans (Only.of_below hb2)) _

set_option maxHeartbeats 800000 in
set_option maxRecDepth 100000 in
theorem number_4 (b : Nat) (c : Cu) (k : Nat) (hk : k = 1 ∨ k = 2 ∨ k = 4) (w : World) (h : IsCur 163 b c w) (hok : c.ok) (hs : (c.out k).size = 4) :
    Calls Try.prog 125 #[.pointer (some ⟨b, 0, none⟩), .int .i64 k, .func (.func 126) #[] #[]] w fun en w' => en = .returned (.int .i64 (c.int k)) ∧ IsCur 163 b (c.bytes k) w' ∧ Only b w w' := by
  obtain ⟨x, y, z, u, hl⟩ := list4 (c.out k).data.toList (by rw [Array.length_toList]; exact hs)
  obtain ⟨bx0, bx1⟩ := byte_bd x
  obtain ⟨by0, by1⟩ := byte_bd y
  obtain ⟨bz0, bz1⟩ := byte_bd z
  obtain ⟨bu0, bu1⟩ := byte_bd u
  have hv : c.int k = (u.toNat : Int) + (z.toNat : Int) * 256 + (y.toNat : Int) * 65536 + (x.toNat : Int) * 16777216 := by
    unfold Cu.int
    rw [hl]
    simp [beV]
    omega
  have HV := hide hv
  clear hv
  have o0 := or0 (u.toNat : Int) (by omega) (by omega)
  have o1 := or8 ((u.toNat : Int)) (z.toNat : Int) (by omega) (by omega) (by omega) (by omega)
  have o2 := or16 ((u.toNat : Int) + (z.toNat : Int) * 256) (y.toNat : Int) (by omega) (by omega) (by omega) (by omega)
  have o3 := or24 ((u.toNat : Int) + (z.toNat : Int) * 256 + (y.toNat : Int) * 65536) (x.toNat : Int) (by omega) (by omega) (by omega) (by omega)
  have hg0 : (⟨(c.out k).data.reverse⟩ : ByteArray).data.toList.getD 0 0 = u := by
    show (c.out k).data.reverse.toList.getD 0 0 = _
    rw [Array.toList_reverse, hl]
    rfl
  have HG0 := hide hg0
  clear hg0
  have hg1 : (⟨(c.out k).data.reverse⟩ : ByteArray).data.toList.getD 1 0 = z := by
    show (c.out k).data.reverse.toList.getD 1 0 = _
    rw [Array.toList_reverse, hl]
    rfl
  have HG1 := hide hg1
  clear hg1
  have hg2 : (⟨(c.out k).data.reverse⟩ : ByteArray).data.toList.getD 2 0 = y := by
    show (c.out k).data.reverse.toList.getD 2 0 = _
    rw [Array.toList_reverse, hl]
    rfl
  have HG2 := hide hg2
  clear hg2
  have hg3 : (⟨(c.out k).data.reverse⟩ : ByteArray).data.toList.getD 3 0 = x := by
    show (c.out k).data.reverse.toList.getD 3 0 = _
    rw [Array.toList_reverse, hl]
    rfl
  have HG3 := hide hg3
  clear hg3
  have hw := wide_yes k w (by omega)
  have hB := bytes_any b c k w h hok (by omega)
  have HS := hide hs
  have HB := hide hB
  have HW := hide hw
  have hsz : (⟨(c.out k).data.reverse⟩ : ByteArray).size = 4 := by rw [rev_size]; exact hs
  have HZ := hide hsz
  clear h hok hs hw hB hsz hk hl
  go_enter Try.func125, Try.ntmps125
  go_wp2_with (first | (go_at_call 142; refine HW.out.mono ?_; rintro e w0 ⟨rfl, rfl⟩) | (go_at_call 74; refine HB.out.mono ?_; rintro e w1 ⟨rfl, hc1, ho1⟩) | (go_at_call 126; refine (turned_any (c.out k) _ (by rw [HS.out]; decide)).mono ?_; rintro e w2 ⟨rfl, hb2⟩; have hcv := hcb w2 ⟨(c.out k).data.reverse⟩; rw [HZ.out] at hcv; have c0 := Lib.bytesWorld_cell w2 5 ⟨(c.out k).data.reverse⟩ 0 (by rw [rev_size, HS.out]; decide); rw [HG0.out] at c0; have c1 := Lib.bytesWorld_cell w2 5 ⟨(c.out k).data.reverse⟩ 1 (by rw [rev_size, HS.out]; decide); rw [HG1.out] at c1; have c2 := Lib.bytesWorld_cell w2 5 ⟨(c.out k).data.reverse⟩ 2 (by rw [rev_size, HS.out]; decide); rw [HG2.out] at c2; have c3 := Lib.bytesWorld_cell w2 5 ⟨(c.out k).data.reverse⟩ 3 (by rw [rev_size, HS.out]; decide); rw [HG3.out] at c3))
  refine wp_loop_rounds 5 ?_
  rw [rounds_succ]
  go_wp2
  rw [rounds_succ]
  go_wp2
  rw [rounds_succ]
  go_wp2
  rw [rounds_succ]
  go_wp2
  rw [rounds_succ]
  go_wp2
  go_ret
  refine ⟨by rw [HV.out]; rfl, ?_, ?_⟩
  · exact (hc1.keep hb2).keep (bytesWorld_below _ _ _)
  · exact bytesWorld_only _ _ _ (ho1.trans (Only.of_below hb2)) _

end Go.Proofs.Ytodlpofpeoiedaa
