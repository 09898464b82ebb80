/-
  From where a rectangle comes: plain.Copy and the document's; how long a side may be.
-/
import Derived.Test.YtodlpofpeoiedaaMF
import Derived.Test.YtodlpofpeoiedaaMD
import Derived.Deep.Cut
namespace Go.Proofs.Ytodlpofpeoiedaa
open Go.RowKit Go.Sort

/-- A place as bytes, and the error. -/
def copyS (x y : Int) : ByteArray := if putFits 2 x && putFits 2 y then beB 2 x ++ beB 2 y else ⟨#[]⟩
def copyE (x y : Int) : Int := if putFits 2 x && putFits 2 y then 0 else 1

set_option maxHeartbeats 1600000 in
set_option maxRecDepth 100000 in
theorem copy_yy (x y : Int) (w : World) (h1 : Hid (putFits 2 x = true)) (h2 : Hid (putFits 2 y = true)) :
    Calls Try.prog 44 #[.int .i64 x, .int .i64 y] w fun e w' => e = .returned (.tuple #[.string (beB 2 x ++ beB 2 y), .int .i64 0]) ∧ Below w.heap.size w w' := by
  have z1 : (beB 2 x).size = 2 := beB_size 2 x
  have z2 : (beB 2 y).size = 2 := beB_size 2 y
  go_enter Try.func44, Try.ntmps44
  go_wp2_with fail
  refine (put_yes 2 (by simp) _ _ h1.out).mono ?_
  rintro e w1 ⟨rfl, hb1⟩
  have B1 := hide hb1
  clear hb1
  go_wp2_with fail
  refine (put_yes 2 (by simp) _ _ h2.out).mono ?_
  rintro e w2 ⟨rfl, hb2⟩
  have B2 := hide (B1.out.trans (hb2.mono B1.out.size))
  clear hb2
  go_wp2_with fail
  go_ret2
  exact ⟨rfl, B2.out⟩

set_option maxHeartbeats 1600000 in
set_option maxRecDepth 100000 in
theorem copy_yn (x y : Int) (w : World) (h1 : Hid (putFits 2 x = true)) (h2 : Hid (putFits 2 y = false)) :
    Calls Try.prog 44 #[.int .i64 x, .int .i64 y] w fun e w' => e = .returned (.tuple #[.string ⟨#[]⟩, .int .i64 1]) ∧ Below w.heap.size w w' := by
  go_enter Try.func44, Try.ntmps44
  go_wp2_with fail
  refine (put_yes 2 (by simp) _ _ h1.out).mono ?_
  rintro e w1 ⟨rfl, hb1⟩
  have B1 := hide hb1
  clear hb1
  go_wp2_with fail
  refine (put_no 2 (by simp) _ _ h2.out).mono ?_
  rintro e w2 ⟨rfl, hb2⟩
  have B2 := hide (B1.out.trans (hb2.mono B1.out.size))
  clear hb2
  go_wp2_with fail
  go_ret2
  exact ⟨rfl, B2.out⟩

set_option maxHeartbeats 1600000 in
set_option maxRecDepth 100000 in
theorem copy_ny (x y : Int) (w : World) (h1 : Hid (putFits 2 x = false)) (h2 : Hid (putFits 2 y = true)) :
    Calls Try.prog 44 #[.int .i64 x, .int .i64 y] w fun e w' => e = .returned (.tuple #[.string ⟨#[]⟩, .int .i64 1]) ∧ Below w.heap.size w w' := by
  go_enter Try.func44, Try.ntmps44
  go_wp2_with fail
  refine (put_no 2 (by simp) _ _ h1.out).mono ?_
  rintro e w1 ⟨rfl, hb1⟩
  have B1 := hide hb1
  clear hb1
  go_wp2_with fail
  refine (put_yes 2 (by simp) _ _ h2.out).mono ?_
  rintro e w2 ⟨rfl, hb2⟩
  have B2 := hide (B1.out.trans (hb2.mono B1.out.size))
  clear hb2
  go_wp2_with fail
  go_ret2
  exact ⟨rfl, B2.out⟩

set_option maxHeartbeats 1600000 in
set_option maxRecDepth 100000 in
theorem copy_nn (x y : Int) (w : World) (h1 : Hid (putFits 2 x = false)) (h2 : Hid (putFits 2 y = false)) :
    Calls Try.prog 44 #[.int .i64 x, .int .i64 y] w fun e w' => e = .returned (.tuple #[.string ⟨#[]⟩, .int .i64 1]) ∧ Below w.heap.size w w' := by
  go_enter Try.func44, Try.ntmps44
  go_wp2_with fail
  refine (put_no 2 (by simp) _ _ h1.out).mono ?_
  rintro e w1 ⟨rfl, hb1⟩
  have B1 := hide hb1
  clear hb1
  go_wp2_with fail
  refine (put_no 2 (by simp) _ _ h2.out).mono ?_
  rintro e w2 ⟨rfl, hb2⟩
  have B2 := hide (B1.out.trans (hb2.mono B1.out.size))
  clear hb2
  go_wp2_with fail
  go_ret2
  exact ⟨rfl, B2.out⟩

theorem copy_any (x y : Int) (w : World) :
    Calls Try.prog 44 #[.int .i64 x, .int .i64 y] w fun e w' => e = .returned (.tuple #[.string (copyS x y), .int .i64 (copyE x y)]) ∧ Below w.heap.size w w' := by
  unfold copyS copyE
  cases h1 : putFits 2 x with
  | true =>
    cases h2 : putFits 2 y with
    | true => exact copy_yy x y w h1 h2
    | false => exact copy_yn x y w h1 h2
  | false =>
    cases h2 : putFits 2 y with
    | true => exact copy_ny x y w h1 h2
    | false => exact copy_nn x y w h1 h2

set_option maxHeartbeats 1600000 in
set_option maxRecDepth 100000 in
theorem rcopy_yy (x y : Int) (w : World) (h1 : Hid (putFits 2 x = true)) (h2 : Hid (putFits 2 y = true)) :
    Calls Try.prog 45 #[.int .i64 x, .int .i64 y] w fun e w' => e = .returned (.tuple #[.string (beB 2 x ++ beB 2 y), .int .i64 0]) ∧ Below w.heap.size w w' := by
  have z1 : (beB 2 x).size = 2 := beB_size 2 x
  have z2 : (beB 2 y).size = 2 := beB_size 2 y
  go_enter Try.func45, Try.ntmps45
  go_wp2_with fail
  refine (rput_yes 2 (by simp) _ _ h1.out).mono ?_
  rintro e w1 ⟨rfl, hb1⟩
  have B1 := hide hb1
  clear hb1
  go_wp2_with fail
  refine (rput_yes 2 (by simp) _ _ h2.out).mono ?_
  rintro e w2 ⟨rfl, hb2⟩
  have B2 := hide (B1.out.trans (hb2.mono B1.out.size))
  clear hb2
  go_wp2_with fail
  go_ret2
  exact ⟨rfl, B2.out⟩

set_option maxHeartbeats 1600000 in
set_option maxRecDepth 100000 in
theorem rcopy_yn (x y : Int) (w : World) (h1 : Hid (putFits 2 x = true)) (h2 : Hid (putFits 2 y = false)) :
    Calls Try.prog 45 #[.int .i64 x, .int .i64 y] w fun e w' => e = .returned (.tuple #[.string ⟨#[]⟩, .int .i64 1]) ∧ Below w.heap.size w w' := by
  go_enter Try.func45, Try.ntmps45
  go_wp2_with fail
  refine (rput_yes 2 (by simp) _ _ h1.out).mono ?_
  rintro e w1 ⟨rfl, hb1⟩
  have B1 := hide hb1
  clear hb1
  go_wp2_with fail
  refine (rput_no 2 (by simp) _ _ h2.out).mono ?_
  rintro e w2 ⟨rfl, hb2⟩
  have B2 := hide (B1.out.trans (hb2.mono B1.out.size))
  clear hb2
  go_wp2_with fail
  go_ret2
  exact ⟨rfl, B2.out⟩

set_option maxHeartbeats 1600000 in
set_option maxRecDepth 100000 in
theorem rcopy_ny (x y : Int) (w : World) (h1 : Hid (putFits 2 x = false)) (h2 : Hid (putFits 2 y = true)) :
    Calls Try.prog 45 #[.int .i64 x, .int .i64 y] w fun e w' => e = .returned (.tuple #[.string ⟨#[]⟩, .int .i64 1]) ∧ Below w.heap.size w w' := by
  go_enter Try.func45, Try.ntmps45
  go_wp2_with fail
  refine (rput_no 2 (by simp) _ _ h1.out).mono ?_
  rintro e w1 ⟨rfl, hb1⟩
  have B1 := hide hb1
  clear hb1
  go_wp2_with fail
  refine (rput_yes 2 (by simp) _ _ h2.out).mono ?_
  rintro e w2 ⟨rfl, hb2⟩
  have B2 := hide (B1.out.trans (hb2.mono B1.out.size))
  clear hb2
  go_wp2_with fail
  go_ret2
  exact ⟨rfl, B2.out⟩

set_option maxHeartbeats 1600000 in
set_option maxRecDepth 100000 in
theorem rcopy_nn (x y : Int) (w : World) (h1 : Hid (putFits 2 x = false)) (h2 : Hid (putFits 2 y = false)) :
    Calls Try.prog 45 #[.int .i64 x, .int .i64 y] w fun e w' => e = .returned (.tuple #[.string ⟨#[]⟩, .int .i64 1]) ∧ Below w.heap.size w w' := by
  go_enter Try.func45, Try.ntmps45
  go_wp2_with fail
  refine (rput_no 2 (by simp) _ _ h1.out).mono ?_
  rintro e w1 ⟨rfl, hb1⟩
  have B1 := hide hb1
  clear hb1
  go_wp2_with fail
  refine (rput_no 2 (by simp) _ _ h2.out).mono ?_
  rintro e w2 ⟨rfl, hb2⟩
  have B2 := hide (B1.out.trans (hb2.mono B1.out.size))
  clear hb2
  go_wp2_with fail
  go_ret2
  exact ⟨rfl, B2.out⟩

theorem rcopy_any (x y : Int) (w : World) :
    Calls Try.prog 45 #[.int .i64 x, .int .i64 y] w fun e w' => e = .returned (.tuple #[.string (copyS x y), .int .i64 (copyE x y)]) ∧ Below w.heap.size w w' := by
  unfold copyS copyE
  cases h1 : putFits 2 x with
  | true =>
    cases h2 : putFits 2 y with
    | true => exact rcopy_yy x y w h1 h2
    | false => exact rcopy_yn x y w h1 h2
  | false =>
    cases h2 : putFits 2 y with
    | true => exact rcopy_ny x y w h1 h2
    | false => exact rcopy_nn x y w h1 h2


/-- How long a side may be. -/
def sideB (n : Int) : Bool := decide (0 ≤ n ∧ n ≤ 4096)

set_option maxHeartbeats 1600000 in
set_option maxRecDepth 100000 in
theorem side_any (n : Int) (w : World) : Calls Try.prog 86 #[.int .i64 n] w fun e w' => e = .returned (.bool (sideB n)) ∧ w = w' := by
  by_cases h0 : 0 ≤ n
  · by_cases h1 : n ≤ 4096
    · go_enter Try.func86, Try.ntmps86
      go_wp2_with fail
      go_ret
      exact ⟨by simp [sideB, h0, h1], rfl⟩
    · go_enter Try.func86, Try.ntmps86
      go_wp2_with fail
      go_ret
      exact ⟨by simp [sideB, h1], rfl⟩
  · go_enter Try.func86, Try.ntmps86
    go_wp2_with fail
    go_ret
    exact ⟨by simp [sideB]; omega, rfl⟩

end Go.Proofs.Ytodlpofpeoiedaa

/-
  From where a rectangle comes, of bytes: plain.CopyOf and the document's.
-/
namespace Go.Proofs.Ytodlpofpeoiedaa
open Go.RowKit Go.Sort

def ofX (s : ByteArray) : Int := if s.size < 4 then 0 else wordV s 0
def ofY (s : ByteArray) : Int := if s.size < 4 then 0 else wordV s 2
def ofN (s : ByteArray) : Int := if s.size < 4 then 0 else 4
def ofE (s : ByteArray) : Int := if s.size < 4 then 2 else 0

theorem results_tmp4 {fn : Func} {t u v x : Tmp} (h : fn.results = #[.tmp t, .tmp u, .tmp v, .tmp x]) (tmps : Array Value) (P : Program) (w : World) :
    (results fn tmps).run P w = .ok (.tuple #[tmps.getD t undef, tmps.getD u undef, tmps.getD v undef, tmps.getD x undef]) w := by
  simp [results, h]

set_option maxHeartbeats 1600000 in
set_option maxRecDepth 100000 in
theorem copyOf_yes (s : ByteArray) (c1 c2 : Cu) (x y : Int) (n : Nat) (w : World) (h0 : Hid (⟨s, 0, 0⟩ : Cu).ok) (h1 : Hid (c1 = (⟨s, 0, 0⟩ : Cu).bytes 2)) (hx : Hid (x = (⟨s, 0, 0⟩ : Cu).int 2)) (h2 : Hid (c2 = c1.bytes 2)) (hy : Hid (y = c1.int 2)) (he : Hid (c2.e = 0)) (hn : Hid (c2.i = n)) :
    Calls Try.prog 46 #[.string s] w fun en w' => en = .returned (.tuple #[.int .i64 x, .int .i64 y, .int .i64 n, .int .i64 0]) ∧ Below w.heap.size w w' := by
  go_enter Try.func46, Try.ntmps46
  go_wp2_with fail
  refine (new_any _ _).mono ?_
  rintro e w1 ⟨rfl, hc1, hb1, hz1⟩
  have I1 := hide hc1
  have B1 := hide hb1
  clear hc1 hb1
  go_wp2_with fail
  refine (int_at _ _ c1 2 x (by simp) _ I1.out h0 h1 hx).mono ?_
  rintro e w2 ⟨rfl, hc2, ho2⟩
  have I2 := hide hc2
  have B2 := hide (Below.grown B1.out ho2 B1.out.size (by intro k hk; cases hk; omega))
  clear hc2 ho2
  go_wp2_with fail
  refine (int_at _ c1 c2 2 y (by simp) _ I2.out (ok_at h1 h0) h2 hy).mono ?_
  rintro e w3 ⟨rfl, hc3, ho3⟩
  have I3 := hide hc3
  have B3 := hide (Below.grown B2.out ho3 B2.out.size (by intro k hk; cases hk; omega))
  clear hc3 ho3
  go_wp2_with fail
  have HE : Calls Try.prog 75 #[.pointer (some ⟨w.heap.size, 0, none⟩)] w3 fun en w' => en = .returned (.int .i64 0) ∧ w3 = w' := by
    have := err_any _ c2 w3 I3.out
    rwa [he.out] at this
  have HA : Calls Try.prog 90 #[.pointer (some ⟨w.heap.size, 0, none⟩)] w3 fun en w' => en = .returned (.int .i64 n) ∧ w3 = w' := by
    have := at_any _ c2 w3 I3.out
    rwa [hn.out] at this
  have HA' := hide HA
  clear HA
  refine HE.mono ?_
  rintro _ w4 ⟨rfl, rfl⟩
  go_wp2_with fail
  refine HA'.out.mono ?_
  rintro _ w5 ⟨rfl, rfl⟩
  go_wp2_with fail
  (try simp only [Exit.inBlock, Exit.then])
  refine bodyPost_ret (results_tmp4 rfl _ _ _) rfl ?_
  exact ⟨rfl, B3.out⟩

set_option maxHeartbeats 1600000 in
set_option maxRecDepth 100000 in
theorem copyOf_no (s : ByteArray) (c1 c2 : Cu) (x y : Int) (n : Nat) (w : World) (h0 : Hid (⟨s, 0, 0⟩ : Cu).ok) (h1 : Hid (c1 = (⟨s, 0, 0⟩ : Cu).bytes 2)) (hx : Hid (x = (⟨s, 0, 0⟩ : Cu).int 2)) (h2 : Hid (c2 = c1.bytes 2)) (hy : Hid (y = c1.int 2)) (he : Hid (c2.e = 2)) (hn : Hid (c2.i = n)) :
    Calls Try.prog 46 #[.string s] w fun en w' => en = .returned (.tuple #[.int .i64 0, .int .i64 0, .int .i64 0, .int .i64 2]) ∧ Below w.heap.size w w' := by
  go_enter Try.func46, Try.ntmps46
  go_wp2_with fail
  refine (new_any _ _).mono ?_
  rintro e w1 ⟨rfl, hc1, hb1, hz1⟩
  have I1 := hide hc1
  have B1 := hide hb1
  clear hc1 hb1
  go_wp2_with fail
  refine (int_at _ _ c1 2 x (by simp) _ I1.out h0 h1 hx).mono ?_
  rintro e w2 ⟨rfl, hc2, ho2⟩
  have I2 := hide hc2
  have B2 := hide (Below.grown B1.out ho2 B1.out.size (by intro k hk; cases hk; omega))
  clear hc2 ho2
  go_wp2_with fail
  refine (int_at _ c1 c2 2 y (by simp) _ I2.out (ok_at h1 h0) h2 hy).mono ?_
  rintro e w3 ⟨rfl, hc3, ho3⟩
  have I3 := hide hc3
  have B3 := hide (Below.grown B2.out ho3 B2.out.size (by intro k hk; cases hk; omega))
  clear hc3 ho3
  go_wp2_with fail
  have HE : Calls Try.prog 75 #[.pointer (some ⟨w.heap.size, 0, none⟩)] w3 fun en w' => en = .returned (.int .i64 2) ∧ w3 = w' := by
    have := err_any _ c2 w3 I3.out
    rwa [he.out] at this
  have HA : Calls Try.prog 90 #[.pointer (some ⟨w.heap.size, 0, none⟩)] w3 fun en w' => en = .returned (.int .i64 n) ∧ w3 = w' := by
    have := at_any _ c2 w3 I3.out
    rwa [hn.out] at this
  have HA' := hide HA
  clear HA
  refine HE.mono ?_
  rintro _ w4 ⟨rfl, rfl⟩
  go_wp2_with fail
  (try simp only [Exit.inBlock, Exit.then])
  refine bodyPost_ret (results_tmp4 rfl _ _ _) rfl ?_
  exact ⟨rfl, B3.out⟩


theorem copyOf_any (s : ByteArray) (w : World) (hs : s.size ≤ 1099511627776) :
    Calls Try.prog 46 #[.string s] w fun en w' => en = .returned (.tuple #[.int .i64 (ofX s), .int .i64 (ofY s), .int .i64 (ofN s), .int .i64 (ofE s)]) ∧ Below w.heap.size w w' := by
  have h0 : (⟨s, 0, 0⟩ : Cu).ok := ⟨by simp, hs⟩
  unfold ofX ofY ofN ofE
  by_cases h : s.size < 4
  · rw [if_pos h, if_pos h, if_pos h, if_pos h]
    have he : ((⟨s, 0, 0⟩ : Cu).run [2, 2]).e = 2 := Cu.run_short [2, 2] ⟨s, 0, 0⟩ rfl (by show s.size - 0 < 4; omega)
    exact copyOf_no s _ _ _ _ _ w h0 (hide rfl) (hide rfl) (hide rfl) (hide rfl) (hide he) (hide rfl)
  · rw [if_neg h, if_neg h, if_neg h, if_neg h]
    obtain ⟨e1, _, i1⟩ := Cu.step (s := s) (i := 0) (n := 2) (by omega)
    obtain ⟨e2, _, i2⟩ := Cu.step (s := s) (i := 2) (n := 2) (by omega)
    exact copyOf_yes s ⟨s, 2, 0⟩ ⟨s, 4, 0⟩ _ _ 4 w h0 (hide e1.symm) (hide i1.symm) (hide e2.symm) (hide i2.symm) (hide rfl) (hide rfl)

end Go.Proofs.Ytodlpofpeoiedaa

/-
  The document's CopyOf; which rectangle may be: plain.Fits and the document's.
-/
namespace Go.Proofs.Ytodlpofpeoiedaa
open Go.RowKit Go.Sort

set_option maxHeartbeats 1600000 in
set_option maxRecDepth 100000 in
theorem rcopyOf_yes (s : ByteArray) (x y : Int) (w : World) (hs : 4 ≤ s.size)
    (C0 : Hid (∀ w, Calls Try.prog 76 #[.string (s.extract 0 2)] w fun e w' => e = .returned (.int .i64 x) ∧ w' = w))
    (C2 : Hid (∀ w, Calls Try.prog 76 #[.string (s.extract 2 4)] w fun e w' => e = .returned (.int .i64 y) ∧ w' = w)) :
    Calls Try.prog 47 #[.string s] w fun en w' => en = .returned (.tuple #[.int .i64 x, .int .i64 y, .int .i64 4, .int .i64 0]) ∧ Below w.heap.size w w' := by
  have h4 : (4 : Int) ≤ s.size := by omega
  have h2 : (2 : Int) ≤ s.size := by omega
  go_enter Try.func47, Try.ntmps47
  go_wp2_with fail
  refine plan_region [(0, true), (1, true), (2, true), (3, true), (4, true), (5, true), (6, true), (7, true), (8, true), (9, true)] (fun _ => True) [] rfl (by kernel_rfl) (fun _ _ d _ _ h => by cases d <;> exact h) ?_
  refine plan_v (i := 0) (N := (some 9)) (v := ?v3x0) (a' := ?b3x0) rfl rfl trivial (by rfl) ?hy3x0 ?ha3x0 ?_
  case hy3x0 =>
    intro w' hS'
    go_simp
    with_reducible rfl
  case ha3x0 =>
    simp only [Act.put, List.setIfInBounds_toArray, List.set_cons_zero, List.set_cons_succ]
    rfl
  refine plan_v (i := 1) (N := (some 10)) (v := ?v3x1) (a' := ?b3x1) rfl rfl trivial (by rfl) ?hy3x1 ?ha3x1 ?_
  case hy3x1 =>
    intro w' hS'
    go_simp
    with_reducible rfl
  case ha3x1 =>
    simp only [Act.put, List.setIfInBounds_toArray, List.set_cons_zero, List.set_cons_succ]
    rfl
  refine plan_c (i := 2) (N := (some 11)) (v := .int .i64 x) (f := 76) (args := #[.string (s.extract 0 2)]) (a' := ?b3x2) rfl rfl trivial (by rfl) ?hy3x2 (fun w' hS' => C0.out w') ?ha3x2 ?_
  case hy3x2 =>
    intro w' hS'
    go_simp
  case ha3x2 =>
    simp only [Act.put, List.setIfInBounds_toArray, List.set_cons_zero, List.set_cons_succ]
    rfl
  refine plan_v (i := 3) (N := (some 12)) (v := ?v3x3) (a' := ?b3x3) rfl rfl trivial (by rfl) ?hy3x3 ?ha3x3 ?_
  case hy3x3 =>
    intro w' hS'
    go_simp
    with_reducible rfl
  case ha3x3 =>
    simp only [Act.put, List.setIfInBounds_toArray, List.set_cons_zero, List.set_cons_succ]
    rfl
  refine plan_v (i := 4) (N := (some 13)) (v := ?v3x4) (a' := ?b3x4) rfl rfl trivial (by rfl) ?hy3x4 ?ha3x4 ?_
  case hy3x4 =>
    intro w' hS'
    go_simp
    with_reducible rfl
  case ha3x4 =>
    simp only [Act.put, List.setIfInBounds_toArray, List.set_cons_zero, List.set_cons_succ]
    rfl
  refine plan_c (i := 5) (N := (some 14)) (v := .int .i64 y) (f := 76) (args := #[.string (s.extract 2 4)]) (a' := ?b3x5) rfl rfl trivial (by rfl) ?hy3x5 (fun w' hS' => C2.out w') ?ha3x5 ?_
  case hy3x5 =>
    intro w' hS'
    go_simp
  case ha3x5 =>
    simp only [Act.put, List.setIfInBounds_toArray, List.set_cons_zero, List.set_cons_succ]
    rfl
  refine plan_v (i := 6) (N := (some 2)) (v := ?v3x6) (a' := ?b3x6) rfl rfl trivial (by rfl) ?hy3x6 ?ha3x6 ?_
  case hy3x6 =>
    intro w' hS'
    go_simp
    with_reducible rfl
  case ha3x6 =>
    simp only [Act.put, List.setIfInBounds_toArray, List.set_cons_zero, List.set_cons_succ]
    rfl
  refine plan_v (i := 7) (N := (some 3)) (v := ?v3x7) (a' := ?b3x7) rfl rfl trivial (by rfl) ?hy3x7 ?ha3x7 ?_
  case hy3x7 =>
    intro w' hS'
    go_simp
    with_reducible rfl
  case ha3x7 =>
    simp only [Act.put, List.setIfInBounds_toArray, List.set_cons_zero, List.set_cons_succ]
    rfl
  refine plan_v (i := 8) (N := (some 4)) (v := ?v3x8) (a' := ?b3x8) rfl rfl trivial (by rfl) ?hy3x8 ?ha3x8 ?_
  case hy3x8 =>
    intro w' hS'
    go_simp
    with_reducible rfl
  case ha3x8 =>
    simp only [Act.put, List.setIfInBounds_toArray, List.set_cons_zero, List.set_cons_succ]
    rfl
  refine plan_v (i := 9) (N := (some 5)) (v := ?v3x9) (a' := ?b3x9) rfl rfl trivial (by rfl) ?hy3x9 ?ha3x9 ?_
  case hy3x9 =>
    intro w' hS'
    go_simp
    with_reducible rfl
  case ha3x9 =>
    simp only [Act.put, List.setIfInBounds_toArray, List.set_cons_zero, List.set_cons_succ]
    rfl
  refine plan_done ?_
  go_wp2_with fail
  (try simp only [Exit.inBlock, Exit.then])
  refine bodyPost_ret (results_tmp4 rfl _ _ _) rfl ?_
  exact ⟨rfl, (Below.refl _ _).drew⟩

set_option maxHeartbeats 1600000 in
set_option maxRecDepth 100000 in
theorem rcopyOf_no (s : ByteArray) (w : World) (hs : s.size < 4) :
    Calls Try.prog 47 #[.string s] w fun en w' => en = .returned (.tuple #[.int .i64 0, .int .i64 0, .int .i64 0, .int .i64 2]) ∧ Below w.heap.size w w' := by
  have h4 : (s.size : Int) < 4 := by omega
  go_enter Try.func47, Try.ntmps47
  go_wp2_with fail
  (try simp only [Exit.inBlock, Exit.then])
  refine bodyPost_ret (results_tmp4 rfl _ _ _) rfl ?_
  exact ⟨rfl, Below.refl _ _⟩

theorem rcopyOf_any (s : ByteArray) (w : World) :
    Calls Try.prog 47 #[.string s] w fun en w' => en = .returned (.tuple #[.int .i64 (ofX s), .int .i64 (ofY s), .int .i64 (ofN s), .int .i64 (ofE s)]) ∧ Below w.heap.size w w' := by
  unfold ofX ofY ofN ofE
  by_cases h : s.size < 4
  · rw [if_pos h, if_pos h, if_pos h, if_pos h]
    exact rcopyOf_no s w h
  · rw [if_neg h, if_neg h, if_neg h, if_neg h]
    exact rcopyOf_yes s _ _ w (by omega) (fun w => rint_eq _ _ w (hide (ext2_size s 0)) (hide rfl)) (fun w => rint_eq _ _ w (hide (ext2_size s 2)) (hide rfl))

end Go.Proofs.Ytodlpofpeoiedaa

/-
  PlainCopies: the law, once the play ahead of it goes well.
-/
namespace Go.Proofs.Ytodlpofpeoiedaa
open Go.RowKit Go.Sort

set_option maxHeartbeats 1600000 in
set_option maxRecDepth 100000 in
theorem law9_no (x y X Y N F : Int) (s : ByteArray) (w : World) (hs : s.size ≤ 400)
    (K23 : Hid (∀ w, Calls Try.prog 23 #[] w fun e w' => e = .returned (.bool true) ∧ Below w.heap.size w w'))
    (K44 : Hid (∀ w, Calls Try.prog 44 #[.int .i64 x, .int .i64 y] w fun e w' => e = .returned (.tuple #[.string ⟨#[]⟩, .int .i64 1]) ∧ Below w.heap.size w w'))
    (K45 : Hid (∀ w, Calls Try.prog 45 #[.int .i64 x, .int .i64 y] w fun e w' => e = .returned (.tuple #[.string ⟨#[]⟩, .int .i64 1]) ∧ Below w.heap.size w w'))
    (K46 : Hid (∀ w, Calls Try.prog 46 #[.string s] w fun e w' => e = .returned (.tuple #[.int .i64 X, .int .i64 Y, .int .i64 N, .int .i64 F]) ∧ Below w.heap.size w w'))
    (K47 : Hid (∀ w, Calls Try.prog 47 #[.string s] w fun e w' => e = .returned (.tuple #[.int .i64 X, .int .i64 Y, .int .i64 N, .int .i64 F]) ∧ Below w.heap.size w w'))
    : Calls Try.prog 9 #[.int .i64 x, .int .i64 y, .string s] w fun e w' => e = .returned (.bool true) ∧ Below w.heap.size w w' := by
  have hs' : (s.size : Int) ≤ 400 := by omega
  go_enter Try.func9, Try.ntmps9
  go_wp2_with fail
  refine (K23.out _).mono ?_
  rintro e w1 ⟨rfl, hb1⟩
  have B1 := hide hb1
  clear hb1
  go_wp2_with fail
  refine (K44.out _).mono ?_
  rintro e w2 ⟨rfl, hb2⟩
  have B2 := hide (B1.out.trans (hb2.mono B1.out.size))
  clear hb2
  go_wp2_with fail
  refine (K45.out _).mono ?_
  rintro e w3 ⟨rfl, hb3⟩
  have B3 := hide (B2.out.trans (hb3.mono B2.out.size))
  clear hb3
  go_wp2_with fail
  refine (K46.out _).mono ?_
  rintro e w4 ⟨rfl, hb4⟩
  have B4 := hide (B3.out.trans (hb4.mono B3.out.size))
  clear hb4
  go_wp2_with fail
  refine (K47.out _).mono ?_
  rintro e w5 ⟨rfl, hb5⟩
  have B5 := hide (B4.out.trans (hb5.mono B4.out.size))
  clear hb5
  go_wp2_with fail
  go_ret
  exact ⟨rfl, B5.out⟩

set_option maxHeartbeats 1600000 in
set_option maxRecDepth 100000 in
theorem law9_yes (x y X Y N F : Int) (s A : ByteArray) (w : World) (hs : s.size ≤ 400) (hA : A.size = 4)
    (K23 : Hid (∀ w, Calls Try.prog 23 #[] w fun e w' => e = .returned (.bool true) ∧ Below w.heap.size w w'))
    (K44 : Hid (∀ w, Calls Try.prog 44 #[.int .i64 x, .int .i64 y] w fun e w' => e = .returned (.tuple #[.string A, .int .i64 0]) ∧ Below w.heap.size w w'))
    (K45 : Hid (∀ w, Calls Try.prog 45 #[.int .i64 x, .int .i64 y] w fun e w' => e = .returned (.tuple #[.string A, .int .i64 0]) ∧ Below w.heap.size w w'))
    (K46 : Hid (∀ w, Calls Try.prog 46 #[.string s] w fun e w' => e = .returned (.tuple #[.int .i64 X, .int .i64 Y, .int .i64 N, .int .i64 F]) ∧ Below w.heap.size w w'))
    (K47 : Hid (∀ w, Calls Try.prog 47 #[.string s] w fun e w' => e = .returned (.tuple #[.int .i64 X, .int .i64 Y, .int .i64 N, .int .i64 F]) ∧ Below w.heap.size w w'))
    (K48 : Hid (∀ w, Calls Try.prog 46 #[.string (A ++ s)] w fun e w' => e = .returned (.tuple #[.int .i64 x, .int .i64 y, .int .i64 4, .int .i64 0]) ∧ Below w.heap.size w w'))
    : Calls Try.prog 9 #[.int .i64 x, .int .i64 y, .string s] w fun e w' => e = .returned (.bool true) ∧ Below w.heap.size w w' := by
  have hs' : (s.size : Int) ≤ 400 := by omega
  have hc : (9223372036854775807 < 4 + s.size) = False := eq_false (by omega)
  go_enter Try.func9, Try.ntmps9
  go_wp2_with fail
  refine (K23.out _).mono ?_
  rintro e w1 ⟨rfl, hb1⟩
  have B1 := hide hb1
  clear hb1
  go_wp2_with fail
  refine (K44.out _).mono ?_
  rintro e w2 ⟨rfl, hb2⟩
  have B2 := hide (B1.out.trans (hb2.mono B1.out.size))
  clear hb2
  go_wp2_with fail
  refine (K45.out _).mono ?_
  rintro e w3 ⟨rfl, hb3⟩
  have B3 := hide (B2.out.trans (hb3.mono B2.out.size))
  clear hb3
  go_wp2_with fail
  refine (K46.out _).mono ?_
  rintro e w4 ⟨rfl, hb4⟩
  have B4 := hide (B3.out.trans (hb4.mono B3.out.size))
  clear hb4
  go_wp2_with fail
  refine (K47.out _).mono ?_
  rintro e w5 ⟨rfl, hb5⟩
  have B5 := hide (B4.out.trans (hb5.mono B4.out.size))
  clear hb5
  go_wp2_with fail
  refine (K48.out _).mono ?_
  rintro e w6 ⟨rfl, hb6⟩
  have B6 := hide (B5.out.trans (hb6.mono B5.out.size))
  clear hb6
  go_wp2_with fail
  go_ret
  exact ⟨rfl, B6.out⟩

set_option maxHeartbeats 1600000 in
set_option maxRecDepth 100000 in
theorem law9_long (x y : Int) (s : ByteArray) (w : World) (hs : 400 < s.size)
    (K23 : Hid (∀ w, Calls Try.prog 23 #[] w fun e w' => e = .returned (.bool true) ∧ Below w.heap.size w w'))
    : Calls Try.prog 9 #[.int .i64 x, .int .i64 y, .string s] w fun e w' => e = .returned (.bool true) ∧ Below w.heap.size w w' := by
  have hs' : (400 : Int) < s.size := by omega
  go_enter Try.func9, Try.ntmps9
  go_wp2_with fail
  refine (K23.out _).mono ?_
  rintro e w1 ⟨rfl, hb1⟩
  have B1 := hide hb1
  clear hb1
  go_wp2_with fail
  go_ret
  exact ⟨rfl, B1.out⟩

/-- miradorlaw16.PlainCopies, where the play goes well. -/
theorem law9_if (x y : Int) (s : ByteArray) (w : World) (K23 : ∀ w, Calls Try.prog 23 #[] w fun e w' => e = .returned (.bool true) ∧ Below w.heap.size w w') :
    Calls Try.prog 9 #[.int .i64 x, .int .i64 y, .string s] w fun e w' => e = .returned (.bool true) ∧ Below w.heap.size w w' := by
  by_cases hs : s.size ≤ 400
  · have K46 := fun w => copyOf_any s w (by omega)
    have K47 := fun w => rcopyOf_any s w
    have K44 := fun w => copy_any x y w
    have K45 := fun w => rcopy_any x y w
    unfold copyS copyE at K44 K45
    cases h : putFits 2 x && putFits 2 y with
    | false =>
      simp only [h, Bool.false_eq_true, if_false] at K44 K45
      exact law9_no x y _ _ _ _ s w hs K23 K44 K45 K46 K47
    | true =>
      simp only [h, if_true] at K44 K45
      simp only [Bool.and_eq_true, putFits, decide_eq_true_eq] at h
      have z : (beB 2 x ++ beB 2 y).size = 4 := by rw [ByteArray.size_append, beB_size, beB_size]
      have hz : ¬ (beB 2 x ++ beB 2 y ++ s).size < 4 := by rw [ByteArray.size_append, z]; omega
      have lx : (beB 2 x).data.toList.length = 2 := by rw [Array.length_toList]; exact beB_size 2 x
      have ly : (beB 2 y).data.toList.length = 2 := by rw [Array.length_toList]; exact beB_size 2 y
      have ex : ((beB 2 x ++ beB 2 y ++ s).extract 0 2).data.toList = (beB 2 x).data.toList := by
        rw [ByteArray.data_extract, Array.toList_extract, List.extract_eq_take_drop, ByteArray.data_append, ByteArray.data_append, Array.toList_append, Array.toList_append, List.append_assoc, List.drop_zero, List.take_append_of_le_length (by omega), List.take_of_length_le (by omega)]
      have ey : ((beB 2 x ++ beB 2 y ++ s).extract 2 4).data.toList = (beB 2 y).data.toList := by
        rw [ByteArray.data_extract, Array.toList_extract, List.extract_eq_take_drop, ByteArray.data_append, ByteArray.data_append, Array.toList_append, Array.toList_append, List.append_assoc, List.drop_append_of_le_length (by omega), List.drop_of_length_le (by omega), List.nil_append, List.take_append_of_le_length (by omega), List.take_of_length_le (by omega)]
      have K48 := fun w => copyOf_any (beB 2 x ++ beB 2 y ++ s) w (by rw [ByteArray.size_append, z]; omega)
      have q1 : ofX (beB 2 x ++ beB 2 y ++ s) = x := by
        unfold ofX wordV
        rw [if_neg hz, ex]
        exact beV_beB 2 x (by omega) (by omega)
      have q2 : ofY (beB 2 x ++ beB 2 y ++ s) = y := by
        unfold ofY wordV
        rw [if_neg hz, ey]
        exact beV_beB 2 y (by omega) (by omega)
      have q3 : ofN (beB 2 x ++ beB 2 y ++ s) = 4 := if_neg hz
      have q4 : ofE (beB 2 x ++ beB 2 y ++ s) = 0 := if_neg hz
      rw [q1, q2, q3, q4] at K48
      exact law9_yes x y _ _ _ _ s _ w hs z K23 K44 K45 K46 K47 K48
  · exact law9_long x y s w (by omega) K23

end Go.Proofs.Ytodlpofpeoiedaa

/-
  Which rectangle may be: plain.Fits and the document's.
-/
namespace Go.Proofs.Ytodlpofpeoiedaa
open Go.RowKit Go.Sort

/-- May a rectangle be? -/
def fitsB (f : Fmt) (a b : Int) : Bool := validB f && sideB a && sideB b

set_option maxHeartbeats 1600000 in
set_option maxRecDepth 100000 in
theorem fits_walk (f : Fmt) (V A B : Bool) (a b : Int) (w : World)
    (K17 : Hid (∀ w, Calls Try.prog 17 #[fmtV f] w fun e w' => e = .returned (.bool V) ∧ Below w.heap.size w w'))
    (KA : Hid (∀ w, Calls Try.prog 86 #[.int .i64 a] w fun e w' => e = .returned (.bool A) ∧ w = w'))
    (KB : Hid (∀ w, Calls Try.prog 86 #[.int .i64 b] w fun e w' => e = .returned (.bool B) ∧ w = w')) :
    Calls Try.prog 24 #[fmtV f, .int .i64 a, .int .i64 b] w fun e w' => e = .returned (.bool (V && A && B)) ∧ Below w.heap.size w w' := by
  have B0 := hide ((Below.refl w.heap.size w).alloc (Nat.le_refl _) (.cells #[.int .i64 f.bits, .int .i64 f.depth, .bool f.big, .bool f.tru, .int .i64 f.rm, .int .i64 f.gm, .int .i64 f.bm, .int .i64 f.rs, .int .i64 f.gs, .int .i64 f.bs] 23))
  go_enter Try.func24, Try.ntmps24
  go_wp2_with fail
  refine (K17.out _).mono ?_
  rintro e w1 ⟨rfl, hb1⟩
  have B1 := hide (B0.out.trans (hb1.mono B0.out.size))
  clear hb1
  cases V with
  | false =>
    go_wp2_with fail
    go_ret
    exact ⟨rfl, B1.out⟩
  | true =>
    go_wp2_with fail
    refine (KA.out _).mono ?_
    rintro e w2 ⟨rfl, rfl⟩
    cases A with
    | false =>
      go_wp2_with fail
      go_ret
      exact ⟨rfl, B1.out⟩
    | true =>
      go_wp2_with fail
      refine (KB.out _).mono ?_
      rintro e w3 ⟨rfl, rfl⟩
      go_wp2_with fail
      go_ret
      exact ⟨rfl, B1.out⟩

theorem fits_any (f : Fmt) (a b : Int) (w : World) (hf : f.fit) :
    Calls Try.prog 24 #[fmtV f, .int .i64 a, .int .i64 b] w fun e w' => e = .returned (.bool (fitsB f a b)) ∧ Below w.heap.size w w' :=
  fits_walk f _ _ _ a b w (fun w => valid_fit f w hf) (fun w => side_any a w) (fun w => side_any b w)

set_option maxHeartbeats 1600000 in
set_option maxRecDepth 100000 in
theorem rfits_walk (f : Fmt) (V : Bool) (a b : Int) (w : World)
    (K18 : Hid (∀ w, Calls Try.prog 18 #[fmtV f] w fun e w' => e = .returned (.bool V) ∧ Below w.heap.size w w'))
    : Calls Try.prog 31 #[fmtV f, .int .i64 a, .int .i64 b] w fun e w' => e = .returned (.bool (V && sideB a && sideB b)) ∧ Below w.heap.size w w' := by
  have B0 := hide ((Below.refl w.heap.size w).alloc (Nat.le_refl _) (.cells #[.int .i64 f.bits, .int .i64 f.depth, .bool f.big, .bool f.tru, .int .i64 f.rm, .int .i64 f.gm, .int .i64 f.bm, .int .i64 f.rs, .int .i64 f.gs, .int .i64 f.bs] 23))
  go_enter Try.func31, Try.ntmps31
  go_wp2_with fail
  refine (K18.out _).mono ?_
  rintro e w1 ⟨rfl, hb1⟩
  have B1 := hide (B0.out.trans (hb1.mono B0.out.size))
  clear hb1
  cases V with
  | false =>
    go_wp2_with fail
    go_ret
    exact ⟨rfl, B1.out⟩
  | true =>
    by_cases h1 : 0 ≤ a
    · by_cases h2 : a ≤ 4096
      · have eA := hide (show sideB a = true from decide_eq_true ⟨h1, h2⟩)
        by_cases h3 : 0 ≤ b
        · by_cases h4 : b ≤ 4096
          · have eB := hide (show sideB b = true from decide_eq_true ⟨h3, h4⟩)
            have d4 : decide (b ≤ 4096) = true := decide_eq_true h4
            go_wp2_with fail
            go_ret
            exact ⟨by rw [eA.out, eB.out]; rfl, B1.out⟩
          · have eB := hide (show sideB b = false from decide_eq_false (fun h => h4 h.2))
            have d4 : decide (b ≤ 4096) = false := decide_eq_false h4
            go_wp2_with fail
            go_ret
            exact ⟨by rw [eA.out, eB.out]; rfl, B1.out⟩
        · have eB := hide (show sideB b = false from decide_eq_false (fun h => h3 h.1))
          go_wp2_with fail
          go_ret
          exact ⟨by rw [eA.out, eB.out]; rfl, B1.out⟩
      · have eA := hide (show sideB a = false from decide_eq_false (fun h => h2 h.2))
        go_wp2_with fail
        go_ret
        exact ⟨by rw [eA.out]; rfl, B1.out⟩
    · have eA := hide (show sideB a = false from decide_eq_false (fun h => h1 h.1))
      go_wp2_with fail
      go_ret
      exact ⟨by rw [eA.out]; rfl, B1.out⟩

theorem rfits_any (f : Fmt) (a b : Int) (w : World) :
    Calls Try.prog 31 #[fmtV f, .int .i64 a, .int .i64 b] w fun e w' => e = .returned (.bool (fitsB f a b)) ∧ Below w.heap.size w w' :=
  rfits_walk f _ a b w (fun w => rvalid_any f w)

end Go.Proofs.Ytodlpofpeoiedaa
