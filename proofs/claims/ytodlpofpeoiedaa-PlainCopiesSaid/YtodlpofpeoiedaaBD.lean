/-
  PlainCopies: the law, once the play ahead of it goes well.
-/
import Derived.Test.YtodlpofpeoiedaaBC
namespace Go.Proofs.Ytodlpofpeoiedaa
open Go.RowKit Go.Sort

set_option maxHeartbeats 1600000 in
set_option maxRecDepth 100000 in
theorem law9_no (x y X Y N F : Int) (s : ByteArray) (w : World) (hs : s.size ≤ 400)
    (K23 : Hid (∀ w, Calls Try.prog 23 #[] w fun e w' => e = .returned (.bool true) ∧ Below w.heap.size w w'))
    (K44 : Hid (∀ w, Calls Try.prog 44 #[.int .i64 x, .int .i64 y] w fun e w' => e = .returned (.tuple #[.string ⟨#[]⟩, .int .i64 1]) ∧ Below w.heap.size w w'))
    (K45 : Hid (∀ w, Calls Try.prog 45 #[.int .i64 x, .int .i64 y] w fun e w' => e = .returned (.tuple #[.string ⟨#[]⟩, .int .i64 1]) ∧ Below w.heap.size w w'))
    (K46 : Hid (∀ w, Calls Try.prog 46 #[.string s] w fun e w' => e = .returned (.tuple #[.int .i64 X, .int .i64 Y, .int .i64 N, .int .i64 F]) ∧ Below w.heap.size w w'))
    (K47 : Hid (∀ w, Calls Try.prog 47 #[.string s] w fun e w' => e = .returned (.tuple #[.int .i64 X, .int .i64 Y, .int .i64 N, .int .i64 F]) ∧ Below w.heap.size w w'))
    : Calls Try.prog 9 #[.int .i64 x, .int .i64 y, .string s] w fun e w' => e = .returned (.bool true) ∧ Below w.heap.size w w' := by
  have hs' : (s.size : Int) ≤ 400 := by omega
  go_enter Try.func9, Try.ntmps9
  go_wp2_with fail
  refine (K23.out _).mono ?_
  rintro e w1 ⟨rfl, hb1⟩
  have B1 := hide hb1
  clear hb1
  go_wp2_with fail
  refine (K44.out _).mono ?_
  rintro e w2 ⟨rfl, hb2⟩
  have B2 := hide (B1.out.trans (hb2.mono B1.out.size))
  clear hb2
  go_wp2_with fail
  refine (K45.out _).mono ?_
  rintro e w3 ⟨rfl, hb3⟩
  have B3 := hide (B2.out.trans (hb3.mono B2.out.size))
  clear hb3
  go_wp2_with fail
  refine (K46.out _).mono ?_
  rintro e w4 ⟨rfl, hb4⟩
  have B4 := hide (B3.out.trans (hb4.mono B3.out.size))
  clear hb4
  go_wp2_with fail
  refine (K47.out _).mono ?_
  rintro e w5 ⟨rfl, hb5⟩
  have B5 := hide (B4.out.trans (hb5.mono B4.out.size))
  clear hb5
  go_wp2_with fail
  go_ret
  exact ⟨rfl, B5.out⟩

set_option maxHeartbeats 1600000 in
set_option maxRecDepth 100000 in
theorem law9_yes (x y X Y N F : Int) (s A : ByteArray) (w : World) (hs : s.size ≤ 400) (hA : A.size = 4)
    (K23 : Hid (∀ w, Calls Try.prog 23 #[] w fun e w' => e = .returned (.bool true) ∧ Below w.heap.size w w'))
    (K44 : Hid (∀ w, Calls Try.prog 44 #[.int .i64 x, .int .i64 y] w fun e w' => e = .returned (.tuple #[.string A, .int .i64 0]) ∧ Below w.heap.size w w'))
    (K45 : Hid (∀ w, Calls Try.prog 45 #[.int .i64 x, .int .i64 y] w fun e w' => e = .returned (.tuple #[.string A, .int .i64 0]) ∧ Below w.heap.size w w'))
    (K46 : Hid (∀ w, Calls Try.prog 46 #[.string s] w fun e w' => e = .returned (.tuple #[.int .i64 X, .int .i64 Y, .int .i64 N, .int .i64 F]) ∧ Below w.heap.size w w'))
    (K47 : Hid (∀ w, Calls Try.prog 47 #[.string s] w fun e w' => e = .returned (.tuple #[.int .i64 X, .int .i64 Y, .int .i64 N, .int .i64 F]) ∧ Below w.heap.size w w'))
    (K48 : Hid (∀ w, Calls Try.prog 46 #[.string (A ++ s)] w fun e w' => e = .returned (.tuple #[.int .i64 x, .int .i64 y, .int .i64 4, .int .i64 0]) ∧ Below w.heap.size w w'))
    : Calls Try.prog 9 #[.int .i64 x, .int .i64 y, .string s] w fun e w' => e = .returned (.bool true) ∧ Below w.heap.size w w' := by
  have hs' : (s.size : Int) ≤ 400 := by omega
  have hc : (9223372036854775807 < 4 + s.size) = False := eq_false (by omega)
  go_enter Try.func9, Try.ntmps9
  go_wp2_with fail
  refine (K23.out _).mono ?_
  rintro e w1 ⟨rfl, hb1⟩
  have B1 := hide hb1
  clear hb1
  go_wp2_with fail
  refine (K44.out _).mono ?_
  rintro e w2 ⟨rfl, hb2⟩
  have B2 := hide (B1.out.trans (hb2.mono B1.out.size))
  clear hb2
  go_wp2_with fail
  refine (K45.out _).mono ?_
  rintro e w3 ⟨rfl, hb3⟩
  have B3 := hide (B2.out.trans (hb3.mono B2.out.size))
  clear hb3
  go_wp2_with fail
  refine (K46.out _).mono ?_
  rintro e w4 ⟨rfl, hb4⟩
  have B4 := hide (B3.out.trans (hb4.mono B3.out.size))
  clear hb4
  go_wp2_with fail
  refine (K47.out _).mono ?_
  rintro e w5 ⟨rfl, hb5⟩
  have B5 := hide (B4.out.trans (hb5.mono B4.out.size))
  clear hb5
  go_wp2_with fail
  refine (K48.out _).mono ?_
  rintro e w6 ⟨rfl, hb6⟩
  have B6 := hide (B5.out.trans (hb6.mono B5.out.size))
  clear hb6
  go_wp2_with fail
  go_ret
  exact ⟨rfl, B6.out⟩

set_option maxHeartbeats 1600000 in
set_option maxRecDepth 100000 in
theorem law9_long (x y : Int) (s : ByteArray) (w : World) (hs : 400 < s.size)
    (K23 : Hid (∀ w, Calls Try.prog 23 #[] w fun e w' => e = .returned (.bool true) ∧ Below w.heap.size w w'))
    : Calls Try.prog 9 #[.int .i64 x, .int .i64 y, .string s] w fun e w' => e = .returned (.bool true) ∧ Below w.heap.size w w' := by
  have hs' : (400 : Int) < s.size := by omega
  go_enter Try.func9, Try.ntmps9
  go_wp2_with fail
  refine (K23.out _).mono ?_
  rintro e w1 ⟨rfl, hb1⟩
  have B1 := hide hb1
  clear hb1
  go_wp2_with fail
  go_ret
  exact ⟨rfl, B1.out⟩

/-- miradorlaw16.PlainCopies, where the play goes well. -/
theorem law9_if (x y : Int) (s : ByteArray) (w : World) (K23 : ∀ w, Calls Try.prog 23 #[] w fun e w' => e = .returned (.bool true) ∧ Below w.heap.size w w') :
    Calls Try.prog 9 #[.int .i64 x, .int .i64 y, .string s] w fun e w' => e = .returned (.bool true) ∧ Below w.heap.size w w' := by
  by_cases hs : s.size ≤ 400
  · have K46 := fun w => copyOf_any s w (by omega)
    have K47 := fun w => rcopyOf_any s w
    have K44 := fun w => copy_any x y w
    have K45 := fun w => rcopy_any x y w
    unfold copyS copyE at K44 K45
    cases h : putFits 2 x && putFits 2 y with
    | false =>
      simp only [h, Bool.false_eq_true, if_false] at K44 K45
      exact law9_no x y _ _ _ _ s w hs K23 K44 K45 K46 K47
    | true =>
      simp only [h, if_true] at K44 K45
      simp only [Bool.and_eq_true, putFits, decide_eq_true_eq] at h
      have z : (beB 2 x ++ beB 2 y).size = 4 := by rw [ByteArray.size_append, beB_size, beB_size]
      have hz : ¬ (beB 2 x ++ beB 2 y ++ s).size < 4 := by rw [ByteArray.size_append, z]; omega
      have lx : (beB 2 x).data.toList.length = 2 := by rw [Array.length_toList]; exact beB_size 2 x
      have ly : (beB 2 y).data.toList.length = 2 := by rw [Array.length_toList]; exact beB_size 2 y
      have ex : ((beB 2 x ++ beB 2 y ++ s).extract 0 2).data.toList = (beB 2 x).data.toList := by
        rw [ByteArray.data_extract, Array.toList_extract, List.extract_eq_take_drop, ByteArray.data_append, ByteArray.data_append, Array.toList_append, Array.toList_append, List.append_assoc, List.drop_zero, List.take_append_of_le_length (by omega), List.take_of_length_le (by omega)]
      have ey : ((beB 2 x ++ beB 2 y ++ s).extract 2 4).data.toList = (beB 2 y).data.toList := by
        rw [ByteArray.data_extract, Array.toList_extract, List.extract_eq_take_drop, ByteArray.data_append, ByteArray.data_append, Array.toList_append, Array.toList_append, List.append_assoc, List.drop_append_of_le_length (by omega), List.drop_of_length_le (by omega), List.nil_append, List.take_append_of_le_length (by omega), List.take_of_length_le (by omega)]
      have K48 := fun w => copyOf_any (beB 2 x ++ beB 2 y ++ s) w (by rw [ByteArray.size_append, z]; omega)
      have q1 : ofX (beB 2 x ++ beB 2 y ++ s) = x := by
        unfold ofX wordV
        rw [if_neg hz, ex]
        exact beV_beB 2 x (by omega) (by omega)
      have q2 : ofY (beB 2 x ++ beB 2 y ++ s) = y := by
        unfold ofY wordV
        rw [if_neg hz, ey]
        exact beV_beB 2 y (by omega) (by omega)
      have q3 : ofN (beB 2 x ++ beB 2 y ++ s) = 4 := if_neg hz
      have q4 : ofE (beB 2 x ++ beB 2 y ++ s) = 0 := if_neg hz
      rw [q1, q2, q3, q4] at K48
      exact law9_yes x y _ _ _ _ s _ w hs z K23 K44 K45 K46 K47 K48
  · exact law9_long x y s w (by omega) K23

end Go.Proofs.Ytodlpofpeoiedaa
