/-
  What servermsg writes: kinds of security, a head, how security came out; a signed number.
-/
import Derived.Test.YtodlpofpeoiedaaDB
namespace Go.Proofs.Ytodlpofpeoiedaa
open Go.RowKit Go.Shelf Go.Sort

set_option maxHeartbeats 3200000 in
set_option maxRecDepth 100000 in
theorem kinds49_walk (a : Option Addr) (n c : Nat) (xs : List Int) (ok : Bool) (w : World) (hI : Hid (IntsIn w.heap.size w a n xs)) (hn : n ≤ 300) (h2 : decide (0 < n) = ok) :
    Calls Try.prog 49 #[.slice a n c] w fun e w' => e = .returned (.tuple #[.string (doneS (intsL 1 [(n : Int)] ++ intsL 1 xs) (intsE 1 (intsE 1 (erAnd 0 ok 1) [(n : Int)]) xs)), .int .i64 (intsE 1 (intsE 1 (erAnd 0 ok 1) [(n : Int)]) xs)]) ∧ Below w.heap.size w w' := by
  have W0 := hide (IsW.fresh w.heap.size w (Nat.le_refl _))
  have K0 := hide (WKeep.of (b := w.heap.size) ((Below.refl w.heap.size w).alloc (Nat.le_refl _) (.cells #[.pointer none, .slice none 0 0, .int .i64 0] 128)) (Nat.le_refl _))
  have hs0 : w.heap.size ≤ (w.alloc (.cells #[.pointer none, .slice none 0 0, .int .i64 0] 128)).heap.size := by rw [World.size_alloc]; omega
  go_enter Try.func49, Try.ntmps49
  go_upto_region 2 with fail
  generalize w.alloc (.cells #[.pointer none, .slice none 0 0, .int .i64 0] 128) = w0 at *
  go_wp2_with fail
  refine (check98_any w.heap.size w.heap.size [] 0 1 ok _ W0.out).mono ?_
  rintro e w1 ⟨rfl, hw, hk⟩
  have W1 := hide hw
  have K1 := hide (K0.out.trans hk)
  have hs1 : w.heap.size ≤ w1.heap.size := K1.out.1.size
  clear hw hk
  go_wp2_with fail
  refine (ints_lits w.heap.size w.heap.size 1 _ _ [(n : Int)] _ W1.out (by simp) (by simp) hs1 (by simp) 1).mono ?_
  rintro e w2 ⟨rfl, hw, hk⟩
  have W2 := hide hw
  have K2 := hide (K1.out.trans hk)
  have hs2 : w.heap.size ≤ w2.heap.size := K2.out.1.size
  clear hw hk
  have hL : Hid ((([] : List UInt8) ++ intsL 1 [(n : Int)]).length ≤ 1099511627776) := hide (by have := intsL_le 1 [(n : Int)]; simp only [List.length_cons, List.length_nil] at this; rw [List.nil_append]; omega)
  go_wp2_with fail
  refine (ints_walk w.heap.size w.heap.size 1 _ _ a n c xs _ W2 (fun W' hk => intsIn_mono (hI.out.below (K2.out.trans hk).1) (K2.out.trans hk).1.size) (by omega) hL.out hs2 (by omega) (.inl rfl)).mono ?_
  rintro e w3 ⟨rfl, hw, hk⟩
  have W3 := hide hw
  have K3 := hide (K2.out.trans hk)
  have hs3 : w.heap.size ≤ w3.heap.size := K3.out.1.size
  clear hw hk
  go_wp2_with fail
  refine (done_any w.heap.size w.heap.size _ _ _ W3.out).mono ?_
  rintro e w4 ⟨rfl, hk⟩
  have K4 := hide (K3.out.trans hk)
  clear hk
  go_wp2_with fail
  go_ret2
  exact ⟨rfl, K4.out.1⟩

set_option maxHeartbeats 3200000 in
set_option maxRecDepth 100000 in
theorem signed_yes (n m q : Int) (w : World) (hm : IntKind.i32.wrap n = m) (hn : (m != n) = false) (m1 : -2147483648 ≤ m) (m2 : m ≤ 2147483647) (hq : IntKind.u32.wrap n = q) (q1 : 0 ≤ q) (q2 : q ≤ 4294967295) (T : ByteArray) (E : Int)
    (K83 : Hid (∀ w, Calls Try.prog 83 #[.int .i64 4, .int .i64 q] w fun e w' => e = .returned (.tuple #[.string T, .int .i64 E]) ∧ Below w.heap.size w w')) :
    Calls Try.prog 105 #[.int .i64 n] w fun e w' => e = .returned (.string T) ∧ Below w.heap.size w w' := by
  go_enter Try.func105, Try.ntmps105
  go_wp2_with fail
  refine (K83.out _).mono ?_
  rintro e w1 ⟨rfl, hb⟩
  have B1 := hide hb
  clear hb
  go_wp2_with fail
  go_ret
  exact ⟨rfl, B1.out⟩

set_option maxHeartbeats 3200000 in
set_option maxRecDepth 100000 in
theorem signed_no (n m : Int) (w : World) (hm : IntKind.i32.wrap n = m) (hn : (m != n) = true) (m1 : -2147483648 ≤ m) (m2 : m ≤ 2147483647) :
    Calls Try.prog 105 #[.int .i64 n] w fun e w' => e = .returned (.string ⟨#[]⟩) ∧ Below w.heap.size w w' := by
  go_enter Try.func105, Try.ntmps105
  go_wp2_with fail
  go_ret
  exact ⟨rfl, Below.refl _ _⟩

/-- A number, perhaps below 0, in four bytes. -/
def signS (n : Int) : ByteArray := if -2147483648 ≤ n ∧ n ≤ 2147483647 then beB 4 (n % 4294967296) else ⟨#[]⟩

/-- octets.Signed. -/
theorem signed_any (n : Int) (w : World) : Calls Try.prog 105 #[.int .i64 n] w fun e w' => e = .returned (.string (signS n)) ∧ Below w.heap.size w w' := by
  have hm := IntKind.wrap_i32 n
  by_cases h : -2147483648 ≤ n ∧ n ≤ 2147483647
  · have e : signS n = beB 4 (n % 4294967296) := if_pos h
    rw [e]
    have hq : IntKind.u32.wrap n = n % 4294967296 := by rw [IntKind.wrap_u32]
    refine signed_yes n n (n % 4294967296) w (by rw [hm]; omega) (by simp) h.1 h.2 hq (by omega) (by omega) _ 0 (fun w => ?_)
    have := put_any 4 (by simp) (n % 4294967296) w
    have hf : putFits 4 (n % 4294967296) = true := by unfold putFits; exact decide_eq_true (by omega)
    unfold putS putE at this
    rw [hf] at this
    exact this
  · have e : signS n = ⟨#[]⟩ := if_neg h
    rw [e]
    refine signed_no n _ w rfl ?_ ?_ ?_
    · rw [hm]
      exact bne_iff_ne.2 (by omega)
    · rw [hm]; omega
    · rw [hm]; omega

theorem signS_size (n : Int) : (signS n).size ≤ 4 := by
  unfold signS
  split
  · rw [beB_size]; exact Nat.le_refl _
  · exact Nat.zero_le _

set_option maxHeartbeats 3200000 in
set_option maxRecDepth 100000 in
/-- servermsg.Put: a head. -/
theorem put53_any (x y ww hh en : Int) (w : World) :
    Calls Try.prog 53 #[.agg #[.int .i64 x, .int .i64 y, .int .i64 ww, .int .i64 hh, .int .i64 en]] w fun e w' => e = .returned (.tuple #[.string (doneS (intsL 2 [x, y, ww, hh] ++ (signS en).data.toList) (erAnd (intsE 2 0 [x, y, ww, hh]) (!(signS en).toList.isEmpty) 1)), .int .i64 (erAnd (intsE 2 0 [x, y, ww, hh]) (!(signS en).toList.isEmpty) 1)]) ∧ Below w.heap.size w w' := by
  have F := hide (Blk.new w 62 #[.int .i64 x, .int .i64 y, .int .i64 ww, .int .i64 hh, .int .i64 en])
  have B := hide ((Below.refl w.heap.size w).alloc (Nat.le_refl _) (.cells #[.int .i64 x, .int .i64 y, .int .i64 ww, .int .i64 hh, .int .i64 en] 62))
  have Z := hide (World.size_alloc w (.cells #[.int .i64 x, .int .i64 y, .int .i64 ww, .int .i64 hh, .int .i64 en] 62))
  go_enter Try.func53, Try.ntmps53
  go_upto_region 1 with fail
  generalize w.alloc (.cells #[.int .i64 x, .int .i64 y, .int .i64 ww, .int .i64 hh, .int .i64 en] 62) = v at *
  have W0 := hide (IsW.fresh w.heap.size v (by rw [Z.out]; omega))
  have K0 := hide (WKeep.of (b := v.heap.size) ((Below.refl v.heap.size v).alloc (Nat.le_refl _) (.cells #[.pointer none, .slice none 0 0, .int .i64 0] 128)) (show w.heap.size ≤ v.heap.size by rw [Z.out]; omega))
  have F0 := hide (F.out.alloc (.cells #[.pointer none, .slice none 0 0, .int .i64 0] 128))
  have KB := hide (show WKeep w.heap.size v.heap.size w v from ⟨B.out, fun k o hk _ _ => (B.out.block k (Array.getElem?_eq_some_iff.1 hk).1).trans hk⟩)
  have hs0 : w.heap.size ≤ (v.alloc (.cells #[.pointer none, .slice none 0 0, .int .i64 0] 128)).heap.size := by rw [World.size_alloc, Z.out]; omega
  have hne : w.heap.size ≠ v.heap.size := by rw [Z.out]; omega
  go_upto_region 2 with fail
  generalize v.alloc (.cells #[.pointer none, .slice none 0 0, .int .i64 0] 128) = w0 at *
  clear F B
  have f0 : w0.cell? ⟨w.heap.size, 0, none⟩ = some (.int .i64 x) := F0.out.cell 0
  have f1 : w0.cell? ⟨w.heap.size, 1, none⟩ = some (.int .i64 y) := F0.out.cell 1
  have f2 : w0.cell? ⟨w.heap.size, 2, none⟩ = some (.int .i64 ww) := F0.out.cell 2
  have f3 : w0.cell? ⟨w.heap.size, 3, none⟩ = some (.int .i64 hh) := F0.out.cell 3
  go_wp2_with fail
  refine (ints_lits w.heap.size v.heap.size 2 _ _ [x, y, ww, hh] _ W0.out (by simp) (by simp) hs0 (by simp) 4).mono ?_
  rintro e w1 ⟨rfl, hw, hk⟩
  have W1 := hide hw
  have K1 := hide (K0.out.trans hk)
  have F1 := hide (hk.blk F0.out hne (by decide))
  have hs1 : w.heap.size ≤ w1.heap.size := (KB.out.trans K1.out).1.size
  clear hw hk
  clear f0 f1 f2 f3
  have f4 : w1.cell? ⟨w.heap.size, 4, none⟩ = some (.int .i64 en) := F1.out.cell 4
  go_wp2_with fail
  refine (signed_any en _).mono ?_
  rintro e w2 ⟨rfl, hb⟩
  have W2 := hide (W1.out.below hb)
  have K2 := hide (K1.out.trans (WKeep.of hb hs1))
  have F2 := hide (F1.out.below hb)
  have hs2 : w.heap.size ≤ w2.heap.size := (KB.out.trans K2.out).1.size
  clear hb
  clear f4
  have hL2 : Hid ((([] : List UInt8) ++ intsL 2 [x, y, ww, hh]).length + (signS en).size ≤ 140737488355328) := hide (by have := intsL_le 2 [x, y, ww, hh]; have := signS_size en; simp only [List.length_cons, List.length_nil] at *; rw [List.nil_append]; omega)
  go_wp2_with fail
  refine (check98_any w.heap.size v.heap.size _ _ 1 (!(signS en).toList.isEmpty) _ W2.out).mono ?_
  rintro e w3 ⟨rfl, hw, hk⟩
  have W3 := hide hw
  have K3 := hide (K2.out.trans hk)
  have F3 := hide (hk.blk F2.out hne (by decide))
  have hs3 : w.heap.size ≤ w3.heap.size := (KB.out.trans K3.out).1.size
  clear hw hk
  go_wp2_with fail
  refine (wwrite_any w.heap.size v.heap.size _ _ _ _ W3.out hL2.out hs3).mono ?_
  rintro e w4 ⟨rfl, hw, hk⟩
  have W4 := hide hw
  have K4 := hide (K3.out.trans hk)
  have F4 := hide (hk.blk F3.out hne (by decide))
  have hs4 : w.heap.size ≤ w4.heap.size := (KB.out.trans K4.out).1.size
  clear hw hk
  go_wp2_with fail
  refine (done_any w.heap.size v.heap.size _ _ _ W4.out).mono ?_
  rintro e w5 ⟨rfl, hk⟩
  have K5 := hide (K4.out.trans hk)
  clear hk
  go_wp2_with fail
  go_ret2
  exact ⟨rfl, (KB.out.trans K5.out).1⟩

set_option maxHeartbeats 3200000 in
set_option maxRecDepth 100000 in
theorem result57_nil (w : World) :
    Calls Try.prog 57 #[.string ⟨#[]⟩] w fun e w' => e = .returned (.string ⟨(intsL 4 [0]).toArray⟩) ∧ Below w.heap.size w w' := by
  have W0 := hide (IsW.fresh w.heap.size w (Nat.le_refl _))
  have K0 := hide (WKeep.of (b := w.heap.size) ((Below.refl w.heap.size w).alloc (Nat.le_refl _) (.cells #[.pointer none, .slice none 0 0, .int .i64 0] 128)) (Nat.le_refl _))
  have hs0 : w.heap.size ≤ (w.alloc (.cells #[.pointer none, .slice none 0 0, .int .i64 0] 128)).heap.size := by rw [World.size_alloc]; omega
  go_enter Try.func57, Try.ntmps57
  go_upto_region 2 with fail
  generalize w.alloc (.cells #[.pointer none, .slice none 0 0, .int .i64 0] 128) = w0 at *
  go_wp2_with fail
  refine (ints_lits w.heap.size w.heap.size 4 _ _ [0] _ W0.out (by simp) (by simp) hs0 (by simp) 1).mono ?_
  rintro e w1 ⟨rfl, hw, hk⟩
  have W1 := hide hw
  have K1 := hide (K0.out.trans hk)
  have hs1 : w.heap.size ≤ w1.heap.size := K1.out.1.size
  clear hw hk
  go_wp2_with fail
  refine (wstring_any w.heap.size w.heap.size _ _ _ W1.out).mono ?_
  rintro e w2 ⟨rfl, hk⟩
  have K2 := hide (K1.out.trans hk)
  clear hk
  go_wp2_with fail
  go_ret
  exact ⟨rfl, K2.out.1⟩

set_option maxHeartbeats 3200000 in
set_option maxRecDepth 100000 in
theorem result57_some (s r : ByteArray) (w : World) (h : s.toList.isEmpty = false) (hs : s.size ≤ 1099511627776) (hr : s.extract 0 (min (s.size : Int) 4096).toNat = r) (hz : r.size ≤ 4096) :
    Calls Try.prog 57 #[.string s] w fun e w' => e = .returned (.string ⟨(intsL 4 [1] ++ txtL r).toArray⟩) ∧ Below w.heap.size w w' := by
  have W0 := hide (IsW.fresh w.heap.size w (Nat.le_refl _))
  have K0 := hide (WKeep.of (b := w.heap.size) ((Below.refl w.heap.size w).alloc (Nat.le_refl _) (.cells #[.pointer none, .slice none 0 0, .int .i64 0] 128)) (Nat.le_refl _))
  have hs0 : w.heap.size ≤ (w.alloc (.cells #[.pointer none, .slice none 0 0, .int .i64 0] 128)).heap.size := by rw [World.size_alloc]; omega
  go_enter Try.func57, Try.ntmps57
  go_upto_region 2 with fail
  generalize w.alloc (.cells #[.pointer none, .slice none 0 0, .int .i64 0] 128) = w0 at *
  go_wp2_with fail
  refine (ints_lits w.heap.size w.heap.size 4 _ _ [1] _ W0.out (by simp) (by simp) hs0 (by simp) 1).mono ?_
  rintro e w1 ⟨rfl, hw, hk⟩
  have W1 := hide hw
  have K1 := hide (K0.out.trans hk)
  have hs1 : w.heap.size ≤ w1.heap.size := K1.out.1.size
  clear hw hk
  have hL : Hid ((([] : List UInt8) ++ intsL 4 [1]).length ≤ 109951162777) := hide (by have := intsL_le 4 [1]; simp only [List.length_cons, List.length_nil] at this; rw [List.nil_append]; omega)
  go_wp2_with fail
  refine (text103_any w.heap.size w.heap.size _ _ r _ W1 hL.out (by omega) hs1).mono ?_
  rintro e w2 ⟨rfl, hw, hk⟩
  have W2 := hide hw
  have K2 := hide (K1.out.trans hk)
  have hs2 : w.heap.size ≤ w2.heap.size := K2.out.1.size
  clear hw hk
  go_wp2_with fail
  refine (wstring_any w.heap.size w.heap.size _ _ _ W2.out).mono ?_
  rintro e w3 ⟨rfl, hk⟩
  have K3 := hide (K2.out.trans hk)
  clear hk
  go_wp2_with fail
  go_ret
  exact ⟨rfl, K3.out.1⟩

end Go.Proofs.Ytodlpofpeoiedaa
