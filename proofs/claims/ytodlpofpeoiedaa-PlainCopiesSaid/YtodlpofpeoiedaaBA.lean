/-
  From where a rectangle comes: plain.Copy and the document's; how long a side may be.
-/
import Derived.Test.YtodlpofpeoiedaaAF
namespace Go.Proofs.Ytodlpofpeoiedaa
open Go.RowKit Go.Sort

/-- A place as bytes, and the error. -/
def copyS (x y : Int) : ByteArray := if putFits 2 x && putFits 2 y then beB 2 x ++ beB 2 y else ⟨#[]⟩
def copyE (x y : Int) : Int := if putFits 2 x && putFits 2 y then 0 else 1

set_option maxHeartbeats 1600000 in
set_option maxRecDepth 100000 in
theorem copy_yy (x y : Int) (w : World) (h1 : Hid (putFits 2 x = true)) (h2 : Hid (putFits 2 y = true)) :
    Calls Try.prog 44 #[.int .i64 x, .int .i64 y] w fun e w' => e = .returned (.tuple #[.string (beB 2 x ++ beB 2 y), .int .i64 0]) ∧ Below w.heap.size w w' := by
  have z1 : (beB 2 x).size = 2 := beB_size 2 x
  have z2 : (beB 2 y).size = 2 := beB_size 2 y
  go_enter Try.func44, Try.ntmps44
  go_wp2_with fail
  refine (put_yes 2 (by simp) _ _ h1.out).mono ?_
  rintro e w1 ⟨rfl, hb1⟩
  have B1 := hide hb1
  clear hb1
  go_wp2_with fail
  refine (put_yes 2 (by simp) _ _ h2.out).mono ?_
  rintro e w2 ⟨rfl, hb2⟩
  have B2 := hide (B1.out.trans (hb2.mono B1.out.size))
  clear hb2
  go_wp2_with fail
  go_ret2
  exact ⟨rfl, B2.out⟩

set_option maxHeartbeats 1600000 in
set_option maxRecDepth 100000 in
theorem copy_yn (x y : Int) (w : World) (h1 : Hid (putFits 2 x = true)) (h2 : Hid (putFits 2 y = false)) :
    Calls Try.prog 44 #[.int .i64 x, .int .i64 y] w fun e w' => e = .returned (.tuple #[.string ⟨#[]⟩, .int .i64 1]) ∧ Below w.heap.size w w' := by
  go_enter Try.func44, Try.ntmps44
  go_wp2_with fail
  refine (put_yes 2 (by simp) _ _ h1.out).mono ?_
  rintro e w1 ⟨rfl, hb1⟩
  have B1 := hide hb1
  clear hb1
  go_wp2_with fail
  refine (put_no 2 (by simp) _ _ h2.out).mono ?_
  rintro e w2 ⟨rfl, hb2⟩
  have B2 := hide (B1.out.trans (hb2.mono B1.out.size))
  clear hb2
  go_wp2_with fail
  go_ret2
  exact ⟨rfl, B2.out⟩

set_option maxHeartbeats 1600000 in
set_option maxRecDepth 100000 in
theorem copy_ny (x y : Int) (w : World) (h1 : Hid (putFits 2 x = false)) (h2 : Hid (putFits 2 y = true)) :
    Calls Try.prog 44 #[.int .i64 x, .int .i64 y] w fun e w' => e = .returned (.tuple #[.string ⟨#[]⟩, .int .i64 1]) ∧ Below w.heap.size w w' := by
  go_enter Try.func44, Try.ntmps44
  go_wp2_with fail
  refine (put_no 2 (by simp) _ _ h1.out).mono ?_
  rintro e w1 ⟨rfl, hb1⟩
  have B1 := hide hb1
  clear hb1
  go_wp2_with fail
  refine (put_yes 2 (by simp) _ _ h2.out).mono ?_
  rintro e w2 ⟨rfl, hb2⟩
  have B2 := hide (B1.out.trans (hb2.mono B1.out.size))
  clear hb2
  go_wp2_with fail
  go_ret2
  exact ⟨rfl, B2.out⟩

set_option maxHeartbeats 1600000 in
set_option maxRecDepth 100000 in
theorem copy_nn (x y : Int) (w : World) (h1 : Hid (putFits 2 x = false)) (h2 : Hid (putFits 2 y = false)) :
    Calls Try.prog 44 #[.int .i64 x, .int .i64 y] w fun e w' => e = .returned (.tuple #[.string ⟨#[]⟩, .int .i64 1]) ∧ Below w.heap.size w w' := by
  go_enter Try.func44, Try.ntmps44
  go_wp2_with fail
  refine (put_no 2 (by simp) _ _ h1.out).mono ?_
  rintro e w1 ⟨rfl, hb1⟩
  have B1 := hide hb1
  clear hb1
  go_wp2_with fail
  refine (put_no 2 (by simp) _ _ h2.out).mono ?_
  rintro e w2 ⟨rfl, hb2⟩
  have B2 := hide (B1.out.trans (hb2.mono B1.out.size))
  clear hb2
  go_wp2_with fail
  go_ret2
  exact ⟨rfl, B2.out⟩

theorem copy_any (x y : Int) (w : World) :
    Calls Try.prog 44 #[.int .i64 x, .int .i64 y] w fun e w' => e = .returned (.tuple #[.string (copyS x y), .int .i64 (copyE x y)]) ∧ Below w.heap.size w w' := by
  unfold copyS copyE
  cases h1 : putFits 2 x with
  | true =>
    cases h2 : putFits 2 y with
    | true => exact copy_yy x y w h1 h2
    | false => exact copy_yn x y w h1 h2
  | false =>
    cases h2 : putFits 2 y with
    | true => exact copy_ny x y w h1 h2
    | false => exact copy_nn x y w h1 h2

set_option maxHeartbeats 1600000 in
set_option maxRecDepth 100000 in
theorem rcopy_yy (x y : Int) (w : World) (h1 : Hid (putFits 2 x = true)) (h2 : Hid (putFits 2 y = true)) :
    Calls Try.prog 45 #[.int .i64 x, .int .i64 y] w fun e w' => e = .returned (.tuple #[.string (beB 2 x ++ beB 2 y), .int .i64 0]) ∧ Below w.heap.size w w' := by
  have z1 : (beB 2 x).size = 2 := beB_size 2 x
  have z2 : (beB 2 y).size = 2 := beB_size 2 y
  go_enter Try.func45, Try.ntmps45
  go_wp2_with fail
  refine (rput_yes 2 (by simp) _ _ h1.out).mono ?_
  rintro e w1 ⟨rfl, hb1⟩
  have B1 := hide hb1
  clear hb1
  go_wp2_with fail
  refine (rput_yes 2 (by simp) _ _ h2.out).mono ?_
  rintro e w2 ⟨rfl, hb2⟩
  have B2 := hide (B1.out.trans (hb2.mono B1.out.size))
  clear hb2
  go_wp2_with fail
  go_ret2
  exact ⟨rfl, B2.out⟩

set_option maxHeartbeats 1600000 in
set_option maxRecDepth 100000 in
theorem rcopy_yn (x y : Int) (w : World) (h1 : Hid (putFits 2 x = true)) (h2 : Hid (putFits 2 y = false)) :
    Calls Try.prog 45 #[.int .i64 x, .int .i64 y] w fun e w' => e = .returned (.tuple #[.string ⟨#[]⟩, .int .i64 1]) ∧ Below w.heap.size w w' := by
  go_enter Try.func45, Try.ntmps45
  go_wp2_with fail
  refine (rput_yes 2 (by simp) _ _ h1.out).mono ?_
  rintro e w1 ⟨rfl, hb1⟩
  have B1 := hide hb1
  clear hb1
  go_wp2_with fail
  refine (rput_no 2 (by simp) _ _ h2.out).mono ?_
  rintro e w2 ⟨rfl, hb2⟩
  have B2 := hide (B1.out.trans (hb2.mono B1.out.size))
  clear hb2
  go_wp2_with fail
  go_ret2
  exact ⟨rfl, B2.out⟩

set_option maxHeartbeats 1600000 in
set_option maxRecDepth 100000 in
theorem rcopy_ny (x y : Int) (w : World) (h1 : Hid (putFits 2 x = false)) (h2 : Hid (putFits 2 y = true)) :
    Calls Try.prog 45 #[.int .i64 x, .int .i64 y] w fun e w' => e = .returned (.tuple #[.string ⟨#[]⟩, .int .i64 1]) ∧ Below w.heap.size w w' := by
  go_enter Try.func45, Try.ntmps45
  go_wp2_with fail
  refine (rput_no 2 (by simp) _ _ h1.out).mono ?_
  rintro e w1 ⟨rfl, hb1⟩
  have B1 := hide hb1
  clear hb1
  go_wp2_with fail
  refine (rput_yes 2 (by simp) _ _ h2.out).mono ?_
  rintro e w2 ⟨rfl, hb2⟩
  have B2 := hide (B1.out.trans (hb2.mono B1.out.size))
  clear hb2
  go_wp2_with fail
  go_ret2
  exact ⟨rfl, B2.out⟩

set_option maxHeartbeats 1600000 in
set_option maxRecDepth 100000 in
theorem rcopy_nn (x y : Int) (w : World) (h1 : Hid (putFits 2 x = false)) (h2 : Hid (putFits 2 y = false)) :
    Calls Try.prog 45 #[.int .i64 x, .int .i64 y] w fun e w' => e = .returned (.tuple #[.string ⟨#[]⟩, .int .i64 1]) ∧ Below w.heap.size w w' := by
  go_enter Try.func45, Try.ntmps45
  go_wp2_with fail
  refine (rput_no 2 (by simp) _ _ h1.out).mono ?_
  rintro e w1 ⟨rfl, hb1⟩
  have B1 := hide hb1
  clear hb1
  go_wp2_with fail
  refine (rput_no 2 (by simp) _ _ h2.out).mono ?_
  rintro e w2 ⟨rfl, hb2⟩
  have B2 := hide (B1.out.trans (hb2.mono B1.out.size))
  clear hb2
  go_wp2_with fail
  go_ret2
  exact ⟨rfl, B2.out⟩

theorem rcopy_any (x y : Int) (w : World) :
    Calls Try.prog 45 #[.int .i64 x, .int .i64 y] w fun e w' => e = .returned (.tuple #[.string (copyS x y), .int .i64 (copyE x y)]) ∧ Below w.heap.size w w' := by
  unfold copyS copyE
  cases h1 : putFits 2 x with
  | true =>
    cases h2 : putFits 2 y with
    | true => exact rcopy_yy x y w h1 h2
    | false => exact rcopy_yn x y w h1 h2
  | false =>
    cases h2 : putFits 2 y with
    | true => exact rcopy_ny x y w h1 h2
    | false => exact rcopy_nn x y w h1 h2


/-- How long a side may be. -/
def sideB (n : Int) : Bool := decide (0 ≤ n ∧ n ≤ 4096)

set_option maxHeartbeats 1600000 in
set_option maxRecDepth 100000 in
theorem side_any (n : Int) (w : World) : Calls Try.prog 86 #[.int .i64 n] w fun e w' => e = .returned (.bool (sideB n)) ∧ w = w' := by
  by_cases h0 : 0 ≤ n
  · by_cases h1 : n ≤ 4096
    · go_enter Try.func86, Try.ntmps86
      go_wp2_with fail
      go_ret
      exact ⟨by simp [sideB, h0, h1], rfl⟩
    · go_enter Try.func86, Try.ntmps86
      go_wp2_with fail
      go_ret
      exact ⟨by simp [sideB, h1], rfl⟩
  · go_enter Try.func86, Try.ntmps86
    go_wp2_with fail
    go_ret
    exact ⟨by simp [sideB]; omega, rfl⟩

end Go.Proofs.Ytodlpofpeoiedaa
