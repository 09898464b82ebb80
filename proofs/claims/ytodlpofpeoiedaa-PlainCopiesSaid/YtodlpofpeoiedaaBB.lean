/-
  From where a rectangle comes, of bytes: plain.CopyOf and the document's.
-/
import Derived.Test.YtodlpofpeoiedaaBA
import Derived.Test.YtodlpofpeoiedaaQ
import Derived.Test.YtodlpofpeoiedaaO2
namespace Go.Proofs.Ytodlpofpeoiedaa
open Go.RowKit Go.Sort

def ofX (s : ByteArray) : Int := if s.size < 4 then 0 else wordV s 0
def ofY (s : ByteArray) : Int := if s.size < 4 then 0 else wordV s 2
def ofN (s : ByteArray) : Int := if s.size < 4 then 0 else 4
def ofE (s : ByteArray) : Int := if s.size < 4 then 2 else 0

theorem results_tmp4 {fn : Func} {t u v x : Tmp} (h : fn.results = #[.tmp t, .tmp u, .tmp v, .tmp x]) (tmps : Array Value) (P : Program) (w : World) :
    (results fn tmps).run P w = .ok (.tuple #[tmps.getD t undef, tmps.getD u undef, tmps.getD v undef, tmps.getD x undef]) w := by
  simp [results, h]

set_option maxHeartbeats 1600000 in
set_option maxRecDepth 100000 in
theorem copyOf_yes (s : ByteArray) (c1 c2 : Cu) (x y : Int) (n : Nat) (w : World) (h0 : Hid (⟨s, 0, 0⟩ : Cu).ok) (h1 : Hid (c1 = (⟨s, 0, 0⟩ : Cu).bytes 2)) (hx : Hid (x = (⟨s, 0, 0⟩ : Cu).int 2)) (h2 : Hid (c2 = c1.bytes 2)) (hy : Hid (y = c1.int 2)) (he : Hid (c2.e = 0)) (hn : Hid (c2.i = n)) :
    Calls Try.prog 46 #[.string s] w fun en w' => en = .returned (.tuple #[.int .i64 x, .int .i64 y, .int .i64 n, .int .i64 0]) ∧ Below w.heap.size w w' := by
  go_enter Try.func46, Try.ntmps46
  go_wp2_with fail
  refine (new_any _ _).mono ?_
  rintro e w1 ⟨rfl, hc1, hb1, hz1⟩
  have I1 := hide hc1
  have B1 := hide hb1
  clear hc1 hb1
  go_wp2_with fail
  refine (int_at _ _ c1 2 x (by simp) _ I1.out h0 h1 hx).mono ?_
  rintro e w2 ⟨rfl, hc2, ho2⟩
  have I2 := hide hc2
  have B2 := hide (Below.grown B1.out ho2 B1.out.size (by intro k hk; cases hk; omega))
  clear hc2 ho2
  go_wp2_with fail
  refine (int_at _ c1 c2 2 y (by simp) _ I2.out (ok_at h1 h0) h2 hy).mono ?_
  rintro e w3 ⟨rfl, hc3, ho3⟩
  have I3 := hide hc3
  have B3 := hide (Below.grown B2.out ho3 B2.out.size (by intro k hk; cases hk; omega))
  clear hc3 ho3
  go_wp2_with fail
  have HE : Calls Try.prog 75 #[.pointer (some ⟨w.heap.size, 0, none⟩)] w3 fun en w' => en = .returned (.int .i64 0) ∧ w3 = w' := by
    have := err_any _ c2 w3 I3.out
    rwa [he.out] at this
  have HA : Calls Try.prog 90 #[.pointer (some ⟨w.heap.size, 0, none⟩)] w3 fun en w' => en = .returned (.int .i64 n) ∧ w3 = w' := by
    have := at_any _ c2 w3 I3.out
    rwa [hn.out] at this
  have HA' := hide HA
  clear HA
  refine HE.mono ?_
  rintro _ w4 ⟨rfl, rfl⟩
  go_wp2_with fail
  refine HA'.out.mono ?_
  rintro _ w5 ⟨rfl, rfl⟩
  go_wp2_with fail
  (try simp only [Exit.inBlock, Exit.then])
  refine bodyPost_ret (results_tmp4 rfl _ _ _) rfl ?_
  exact ⟨rfl, B3.out⟩

set_option maxHeartbeats 1600000 in
set_option maxRecDepth 100000 in
theorem copyOf_no (s : ByteArray) (c1 c2 : Cu) (x y : Int) (n : Nat) (w : World) (h0 : Hid (⟨s, 0, 0⟩ : Cu).ok) (h1 : Hid (c1 = (⟨s, 0, 0⟩ : Cu).bytes 2)) (hx : Hid (x = (⟨s, 0, 0⟩ : Cu).int 2)) (h2 : Hid (c2 = c1.bytes 2)) (hy : Hid (y = c1.int 2)) (he : Hid (c2.e = 2)) (hn : Hid (c2.i = n)) :
    Calls Try.prog 46 #[.string s] w fun en w' => en = .returned (.tuple #[.int .i64 0, .int .i64 0, .int .i64 0, .int .i64 2]) ∧ Below w.heap.size w w' := by
  go_enter Try.func46, Try.ntmps46
  go_wp2_with fail
  refine (new_any _ _).mono ?_
  rintro e w1 ⟨rfl, hc1, hb1, hz1⟩
  have I1 := hide hc1
  have B1 := hide hb1
  clear hc1 hb1
  go_wp2_with fail
  refine (int_at _ _ c1 2 x (by simp) _ I1.out h0 h1 hx).mono ?_
  rintro e w2 ⟨rfl, hc2, ho2⟩
  have I2 := hide hc2
  have B2 := hide (Below.grown B1.out ho2 B1.out.size (by intro k hk; cases hk; omega))
  clear hc2 ho2
  go_wp2_with fail
  refine (int_at _ c1 c2 2 y (by simp) _ I2.out (ok_at h1 h0) h2 hy).mono ?_
  rintro e w3 ⟨rfl, hc3, ho3⟩
  have I3 := hide hc3
  have B3 := hide (Below.grown B2.out ho3 B2.out.size (by intro k hk; cases hk; omega))
  clear hc3 ho3
  go_wp2_with fail
  have HE : Calls Try.prog 75 #[.pointer (some ⟨w.heap.size, 0, none⟩)] w3 fun en w' => en = .returned (.int .i64 2) ∧ w3 = w' := by
    have := err_any _ c2 w3 I3.out
    rwa [he.out] at this
  have HA : Calls Try.prog 90 #[.pointer (some ⟨w.heap.size, 0, none⟩)] w3 fun en w' => en = .returned (.int .i64 n) ∧ w3 = w' := by
    have := at_any _ c2 w3 I3.out
    rwa [hn.out] at this
  have HA' := hide HA
  clear HA
  refine HE.mono ?_
  rintro _ w4 ⟨rfl, rfl⟩
  go_wp2_with fail
  (try simp only [Exit.inBlock, Exit.then])
  refine bodyPost_ret (results_tmp4 rfl _ _ _) rfl ?_
  exact ⟨rfl, B3.out⟩


theorem copyOf_any (s : ByteArray) (w : World) (hs : s.size ≤ 1099511627776) :
    Calls Try.prog 46 #[.string s] w fun en w' => en = .returned (.tuple #[.int .i64 (ofX s), .int .i64 (ofY s), .int .i64 (ofN s), .int .i64 (ofE s)]) ∧ Below w.heap.size w w' := by
  have h0 : (⟨s, 0, 0⟩ : Cu).ok := ⟨by simp, hs⟩
  unfold ofX ofY ofN ofE
  by_cases h : s.size < 4
  · rw [if_pos h, if_pos h, if_pos h, if_pos h]
    have he : ((⟨s, 0, 0⟩ : Cu).run [2, 2]).e = 2 := Cu.run_short [2, 2] ⟨s, 0, 0⟩ rfl (by show s.size - 0 < 4; omega)
    exact copyOf_no s _ _ _ _ _ w h0 (hide rfl) (hide rfl) (hide rfl) (hide rfl) (hide he) (hide rfl)
  · rw [if_neg h, if_neg h, if_neg h, if_neg h]
    obtain ⟨e1, _, i1⟩ := Cu.step (s := s) (i := 0) (n := 2) (by omega)
    obtain ⟨e2, _, i2⟩ := Cu.step (s := s) (i := 2) (n := 2) (by omega)
    exact copyOf_yes s ⟨s, 2, 0⟩ ⟨s, 4, 0⟩ _ _ 4 w h0 (hide e1.symm) (hide i1.symm) (hide e2.symm) (hide i2.symm) (hide rfl) (hide rfl)

end Go.Proofs.Ytodlpofpeoiedaa
