/-
  What servermsg writes: a start, a message.
-/
import Derived.Test.YtodlpofpeoiedaaDC
namespace Go.Proofs.Ytodlpofpeoiedaa
open Go.RowKit Go.Shelf Go.Sort

/-- A start's cells. -/
abbrev staC (x y : Int) (f : Fmt) (nm : ByteArray) : Array Value := #[.int .i64 x, .int .i64 y, .int .i64 f.bits, .int .i64 f.depth, .bool f.big, .bool f.tru, .int .i64 f.rm, .int .i64 f.gm, .int .i64 f.bm, .int .i64 f.rs, .int .i64 f.gs, .int .i64 f.bs, .string nm]
/-- A message's cells. -/
abbrev msgC (kd : Int) (fl : Bool) (n a b c d : Int) (f : Fmt) (en : Value) (t : ByteArray) : Array Value := #[.int .i64 kd, .bool fl, .int .i64 n, .int .i64 a, .int .i64 b, .int .i64 c, .int .i64 d, .int .i64 f.bits, .int .i64 f.depth, .bool f.big, .bool f.tru, .int .i64 f.rm, .int .i64 f.gm, .int .i64 f.bm, .int .i64 f.rs, .int .i64 f.gs, .int .i64 f.bs, en, .string t]

/-- A start's bytes, and the error. -/
def staL (x y : Int) (f : Fmt) (nm : ByteArray) : List UInt8 := intsL 2 [x, y] ++ ((bytesF f).data.toList ++ txtL nm)
def staE (x y : Int) (f : Fmt) (nm : ByteArray) (ok : Bool) : Int := intsE 4 (txtE (intsE 2 (erAnd (erAnd 0 (validB f) 130) ok 1) [x, y]) nm) [(nm.size : Int)]

theorem bytesF_size (f : Fmt) : (bytesF f).size ≤ 30 := by
  unfold bytesF
  split
  · have := catF_size (fieldsF f) (by intro p hp; simp [fieldsF] at hp; rcases hp with rfl | rfl | rfl | rfl | rfl | rfl | rfl | rfl | rfl | rfl <;> simp)
    rw [ByteArray.size_append]
    have e : (fieldsF f).length = 10 := rfl
    rw [e] at this
    show _ + 3 ≤ 30
    omega
  · exact Nat.zero_le _

set_option maxHeartbeats 3200000 in
set_option maxRecDepth 100000 in
theorem bytes51_x (x y : Int) (f : Fmt) (nm : ByteArray) (w : World) (hf : f.fit) (hnm : nm.size ≤ 109951162777) (hx : (x != 0) = false) :
    Calls Try.prog 51 #[.agg (staC x y f nm)] w fun e w' => e = .returned (.tuple #[.string (doneS (staL x y f nm) (staE x y f nm false)), .int .i64 (staE x y f nm false)]) ∧ Below w.heap.size w w' := by
  have F := hide (Blk.new w 58 #[.int .i64 x, .int .i64 y, .int .i64 f.bits, .int .i64 f.depth, .bool f.big, .bool f.tru, .int .i64 f.rm, .int .i64 f.gm, .int .i64 f.bm, .int .i64 f.rs, .int .i64 f.gs, .int .i64 f.bs, .string nm])
  have B := hide ((Below.refl w.heap.size w).alloc (Nat.le_refl _) (.cells #[.int .i64 x, .int .i64 y, .int .i64 f.bits, .int .i64 f.depth, .bool f.big, .bool f.tru, .int .i64 f.rm, .int .i64 f.gm, .int .i64 f.bm, .int .i64 f.rs, .int .i64 f.gs, .int .i64 f.bs, .string nm] 58))
  have Z := hide (World.size_alloc w (.cells #[.int .i64 x, .int .i64 y, .int .i64 f.bits, .int .i64 f.depth, .bool f.big, .bool f.tru, .int .i64 f.rm, .int .i64 f.gm, .int .i64 f.bm, .int .i64 f.rs, .int .i64 f.gs, .int .i64 f.bs, .string nm] 58))
  go_enter Try.func51, Try.ntmps51
  go_upto_region 1 with fail
  generalize w.alloc (.cells #[.int .i64 x, .int .i64 y, .int .i64 f.bits, .int .i64 f.depth, .bool f.big, .bool f.tru, .int .i64 f.rm, .int .i64 f.gm, .int .i64 f.bm, .int .i64 f.rs, .int .i64 f.gs, .int .i64 f.bs, .string nm] 58) = v at *
  have W0 := hide (IsW.fresh w.heap.size v (by rw [Z.out]; omega))
  have K0 := hide (WKeep.of (b := v.heap.size) ((Below.refl v.heap.size v).alloc (Nat.le_refl _) (.cells #[.pointer none, .slice none 0 0, .int .i64 0] 128)) (show w.heap.size ≤ v.heap.size by rw [Z.out]; omega))
  have F0 := hide (F.out.alloc (.cells #[.pointer none, .slice none 0 0, .int .i64 0] 128))
  have KB := hide (show WKeep w.heap.size v.heap.size w v from ⟨B.out, fun k o hk _ _ => (B.out.block k (Array.getElem?_eq_some_iff.1 hk).1).trans hk⟩)
  have hs0 : w.heap.size ≤ (v.alloc (.cells #[.pointer none, .slice none 0 0, .int .i64 0] 128)).heap.size := by rw [World.size_alloc, Z.out]; omega
  have hne : w.heap.size ≠ v.heap.size := by rw [Z.out]; omega
  go_upto_region 2 with fail
  generalize v.alloc (.cells #[.pointer none, .slice none 0 0, .int .i64 0] 128) = w0 at *
  clear F B
  have f2 : w0.cell? ⟨w.heap.size, 2, none⟩ = some (.int .i64 f.bits) := F0.out.cell 2
  have f3 : w0.cell? ⟨w.heap.size, 3, none⟩ = some (.int .i64 f.depth) := F0.out.cell 3
  have f4 : w0.cell? ⟨w.heap.size, 4, none⟩ = some (.bool f.big) := F0.out.cell 4
  have f5 : w0.cell? ⟨w.heap.size, 5, none⟩ = some (.bool f.tru) := F0.out.cell 5
  have f6 : w0.cell? ⟨w.heap.size, 6, none⟩ = some (.int .i64 f.rm) := F0.out.cell 6
  have f7 : w0.cell? ⟨w.heap.size, 7, none⟩ = some (.int .i64 f.gm) := F0.out.cell 7
  have f8 : w0.cell? ⟨w.heap.size, 8, none⟩ = some (.int .i64 f.bm) := F0.out.cell 8
  have f9 : w0.cell? ⟨w.heap.size, 9, none⟩ = some (.int .i64 f.rs) := F0.out.cell 9
  have f10 : w0.cell? ⟨w.heap.size, 10, none⟩ = some (.int .i64 f.gs) := F0.out.cell 10
  have f11 : w0.cell? ⟨w.heap.size, 11, none⟩ = some (.int .i64 f.bs) := F0.out.cell 11
  go_wp2_with fail
  refine (valid_fit f _ hf).mono ?_
  rintro e w1 ⟨rfl, hb⟩
  have W1 := hide (W0.out.below hb)
  have K1 := hide (K0.out.trans (WKeep.of hb hs0))
  have F1 := hide (F0.out.below hb)
  have hs1 : w.heap.size ≤ w1.heap.size := (KB.out.trans K1.out).1.size
  clear hb
  clear f2 f3 f4 f5 f6 f7 f8 f9 f10 f11
  go_wp2_with fail
  refine (check98_any w.heap.size v.heap.size [] 0 130 (validB f) _ W1.out).mono ?_
  rintro e w2 ⟨rfl, hw, hk⟩
  have W2 := hide hw
  have K2 := hide (K1.out.trans hk)
  have F2 := hide (hk.blk F1.out hne (by decide))
  have hs2 : w.heap.size ≤ w2.heap.size := (KB.out.trans K2.out).1.size
  clear hw hk
  have f0 : w2.cell? ⟨w.heap.size, 0, none⟩ = some (.int .i64 x) := F2.out.cell 0
  have f1 : w2.cell? ⟨w.heap.size, 1, none⟩ = some (.int .i64 y) := F2.out.cell 1
  go_wp2_with fail
  refine (check98_any w.heap.size v.heap.size [] _ 1 false _ W2.out).mono ?_
  rintro e w3 ⟨rfl, hw, hk⟩
  have W3 := hide hw
  have K3 := hide (K2.out.trans hk)
  have F3 := hide (hk.blk F2.out hne (by decide))
  have hs3 : w.heap.size ≤ w3.heap.size := (KB.out.trans K3.out).1.size
  clear hw hk
  clear f0 f1
  have f0 : w3.cell? ⟨w.heap.size, 0, none⟩ = some (.int .i64 x) := F3.out.cell 0
  have f1 : w3.cell? ⟨w.heap.size, 1, none⟩ = some (.int .i64 y) := F3.out.cell 1
  go_wp2_with fail
  refine (ints_lits w.heap.size v.heap.size 2 _ _ [x, y] _ W3.out (by simp) (by simp) hs3 (by simp) 2).mono ?_
  rintro e w4 ⟨rfl, hw, hk⟩
  have W4 := hide hw
  have K4 := hide (K3.out.trans hk)
  have F4 := hide (hk.blk F3.out hne (by decide))
  have hs4 : w.heap.size ≤ w4.heap.size := (KB.out.trans K4.out).1.size
  clear hw hk
  clear f0 f1
  have f2 : w4.cell? ⟨w.heap.size, 2, none⟩ = some (.int .i64 f.bits) := F4.out.cell 2
  have f3 : w4.cell? ⟨w.heap.size, 3, none⟩ = some (.int .i64 f.depth) := F4.out.cell 3
  have f4 : w4.cell? ⟨w.heap.size, 4, none⟩ = some (.bool f.big) := F4.out.cell 4
  have f5 : w4.cell? ⟨w.heap.size, 5, none⟩ = some (.bool f.tru) := F4.out.cell 5
  have f6 : w4.cell? ⟨w.heap.size, 6, none⟩ = some (.int .i64 f.rm) := F4.out.cell 6
  have f7 : w4.cell? ⟨w.heap.size, 7, none⟩ = some (.int .i64 f.gm) := F4.out.cell 7
  have f8 : w4.cell? ⟨w.heap.size, 8, none⟩ = some (.int .i64 f.bm) := F4.out.cell 8
  have f9 : w4.cell? ⟨w.heap.size, 9, none⟩ = some (.int .i64 f.rs) := F4.out.cell 9
  have f10 : w4.cell? ⟨w.heap.size, 10, none⟩ = some (.int .i64 f.gs) := F4.out.cell 10
  have f11 : w4.cell? ⟨w.heap.size, 11, none⟩ = some (.int .i64 f.bs) := F4.out.cell 11
  go_wp2_with fail
  refine (fbytes_any f _).mono ?_
  rintro e w5 ⟨rfl, hb⟩
  have W5 := hide (W4.out.below hb)
  have K5 := hide (K4.out.trans (WKeep.of hb hs4))
  have F5 := hide (F4.out.below hb)
  have hs5 : w.heap.size ≤ w5.heap.size := (KB.out.trans K5.out).1.size
  clear hb
  clear f2 f3 f4 f5 f6 f7 f8 f9 f10 f11
  have hL1 : Hid ((([] : List UInt8) ++ intsL 2 [x, y]).length + (bytesF f).size ≤ 100) := hide (by have := intsL_le 2 [x, y]; have := bytesF_size f; simp only [List.length_cons, List.length_nil] at *; rw [List.nil_append]; omega)
  have hL2 : Hid ((([] : List UInt8) ++ intsL 2 [x, y]).length + (bytesF f).size ≤ 140737488355328) := hide (Nat.le_trans hL1.out (by decide))
  go_wp2_with fail
  refine (wwrite_any w.heap.size v.heap.size _ _ (bytesF f) _ W5.out hL2.out hs5).mono ?_
  rintro e w6 ⟨rfl, hw, hk⟩
  have W6 := hide hw
  have K6 := hide (K5.out.trans hk)
  have F6 := hide (hk.blk F5.out hne (by decide))
  have hs6 : w.heap.size ≤ w6.heap.size := (KB.out.trans K6.out).1.size
  clear hw hk
  have hL3 : Hid ((([] : List UInt8) ++ intsL 2 [x, y] ++ (bytesF f).data.toList).length ≤ 109951162777) := hide (by have h1 := hL1.out; have h2 : (bytesF f).data.toList.length = (bytesF f).size := (by rw [Array.length_toList]; rfl); rw [List.length_append, h2]; omega)
  have f12 : w6.cell? ⟨w.heap.size, 12, none⟩ = some (.string nm) := F6.out.cell 12
  go_wp2_with fail
  refine (text103_any w.heap.size v.heap.size _ _ nm _ W6 hL3.out hnm hs6).mono ?_
  rintro e w7 ⟨rfl, hw, hk⟩
  have W7 := hide hw
  have K7 := hide (K6.out.trans hk)
  have F7 := hide (hk.blk F6.out hne (by decide))
  have hs7 : w.heap.size ≤ w7.heap.size := (KB.out.trans K7.out).1.size
  clear hw hk
  clear f12
  go_wp2_with fail
  refine (done_any w.heap.size v.heap.size _ _ _ W7.out).mono ?_
  rintro e w8 ⟨rfl, hk⟩
  have K8 := hide (K7.out.trans hk)
  clear hk
  go_wp2_with fail
  go_ret2
  unfold staL staE
  exact ⟨rfl, (KB.out.trans K8.out).1⟩

set_option maxHeartbeats 3200000 in
set_option maxRecDepth 100000 in
theorem bytes51_y (x y : Int) (f : Fmt) (nm : ByteArray) (w : World) (hf : f.fit) (hnm : nm.size ≤ 109951162777) (hx : (x != 0) = true) (hy : (y != 0) = false) :
    Calls Try.prog 51 #[.agg (staC x y f nm)] w fun e w' => e = .returned (.tuple #[.string (doneS (staL x y f nm) (staE x y f nm false)), .int .i64 (staE x y f nm false)]) ∧ Below w.heap.size w w' := by
  have F := hide (Blk.new w 58 #[.int .i64 x, .int .i64 y, .int .i64 f.bits, .int .i64 f.depth, .bool f.big, .bool f.tru, .int .i64 f.rm, .int .i64 f.gm, .int .i64 f.bm, .int .i64 f.rs, .int .i64 f.gs, .int .i64 f.bs, .string nm])
  have B := hide ((Below.refl w.heap.size w).alloc (Nat.le_refl _) (.cells #[.int .i64 x, .int .i64 y, .int .i64 f.bits, .int .i64 f.depth, .bool f.big, .bool f.tru, .int .i64 f.rm, .int .i64 f.gm, .int .i64 f.bm, .int .i64 f.rs, .int .i64 f.gs, .int .i64 f.bs, .string nm] 58))
  have Z := hide (World.size_alloc w (.cells #[.int .i64 x, .int .i64 y, .int .i64 f.bits, .int .i64 f.depth, .bool f.big, .bool f.tru, .int .i64 f.rm, .int .i64 f.gm, .int .i64 f.bm, .int .i64 f.rs, .int .i64 f.gs, .int .i64 f.bs, .string nm] 58))
  go_enter Try.func51, Try.ntmps51
  go_upto_region 1 with fail
  generalize w.alloc (.cells #[.int .i64 x, .int .i64 y, .int .i64 f.bits, .int .i64 f.depth, .bool f.big, .bool f.tru, .int .i64 f.rm, .int .i64 f.gm, .int .i64 f.bm, .int .i64 f.rs, .int .i64 f.gs, .int .i64 f.bs, .string nm] 58) = v at *
  have W0 := hide (IsW.fresh w.heap.size v (by rw [Z.out]; omega))
  have K0 := hide (WKeep.of (b := v.heap.size) ((Below.refl v.heap.size v).alloc (Nat.le_refl _) (.cells #[.pointer none, .slice none 0 0, .int .i64 0] 128)) (show w.heap.size ≤ v.heap.size by rw [Z.out]; omega))
  have F0 := hide (F.out.alloc (.cells #[.pointer none, .slice none 0 0, .int .i64 0] 128))
  have KB := hide (show WKeep w.heap.size v.heap.size w v from ⟨B.out, fun k o hk _ _ => (B.out.block k (Array.getElem?_eq_some_iff.1 hk).1).trans hk⟩)
  have hs0 : w.heap.size ≤ (v.alloc (.cells #[.pointer none, .slice none 0 0, .int .i64 0] 128)).heap.size := by rw [World.size_alloc, Z.out]; omega
  have hne : w.heap.size ≠ v.heap.size := by rw [Z.out]; omega
  go_upto_region 2 with fail
  generalize v.alloc (.cells #[.pointer none, .slice none 0 0, .int .i64 0] 128) = w0 at *
  clear F B
  have f2 : w0.cell? ⟨w.heap.size, 2, none⟩ = some (.int .i64 f.bits) := F0.out.cell 2
  have f3 : w0.cell? ⟨w.heap.size, 3, none⟩ = some (.int .i64 f.depth) := F0.out.cell 3
  have f4 : w0.cell? ⟨w.heap.size, 4, none⟩ = some (.bool f.big) := F0.out.cell 4
  have f5 : w0.cell? ⟨w.heap.size, 5, none⟩ = some (.bool f.tru) := F0.out.cell 5
  have f6 : w0.cell? ⟨w.heap.size, 6, none⟩ = some (.int .i64 f.rm) := F0.out.cell 6
  have f7 : w0.cell? ⟨w.heap.size, 7, none⟩ = some (.int .i64 f.gm) := F0.out.cell 7
  have f8 : w0.cell? ⟨w.heap.size, 8, none⟩ = some (.int .i64 f.bm) := F0.out.cell 8
  have f9 : w0.cell? ⟨w.heap.size, 9, none⟩ = some (.int .i64 f.rs) := F0.out.cell 9
  have f10 : w0.cell? ⟨w.heap.size, 10, none⟩ = some (.int .i64 f.gs) := F0.out.cell 10
  have f11 : w0.cell? ⟨w.heap.size, 11, none⟩ = some (.int .i64 f.bs) := F0.out.cell 11
  go_wp2_with fail
  refine (valid_fit f _ hf).mono ?_
  rintro e w1 ⟨rfl, hb⟩
  have W1 := hide (W0.out.below hb)
  have K1 := hide (K0.out.trans (WKeep.of hb hs0))
  have F1 := hide (F0.out.below hb)
  have hs1 : w.heap.size ≤ w1.heap.size := (KB.out.trans K1.out).1.size
  clear hb
  clear f2 f3 f4 f5 f6 f7 f8 f9 f10 f11
  go_wp2_with fail
  refine (check98_any w.heap.size v.heap.size [] 0 130 (validB f) _ W1.out).mono ?_
  rintro e w2 ⟨rfl, hw, hk⟩
  have W2 := hide hw
  have K2 := hide (K1.out.trans hk)
  have F2 := hide (hk.blk F1.out hne (by decide))
  have hs2 : w.heap.size ≤ w2.heap.size := (KB.out.trans K2.out).1.size
  clear hw hk
  have f0 : w2.cell? ⟨w.heap.size, 0, none⟩ = some (.int .i64 x) := F2.out.cell 0
  have f1 : w2.cell? ⟨w.heap.size, 1, none⟩ = some (.int .i64 y) := F2.out.cell 1
  go_wp2_with fail
  refine (check98_any w.heap.size v.heap.size [] _ 1 false _ W2.out).mono ?_
  rintro e w3 ⟨rfl, hw, hk⟩
  have W3 := hide hw
  have K3 := hide (K2.out.trans hk)
  have F3 := hide (hk.blk F2.out hne (by decide))
  have hs3 : w.heap.size ≤ w3.heap.size := (KB.out.trans K3.out).1.size
  clear hw hk
  clear f0 f1
  have f0 : w3.cell? ⟨w.heap.size, 0, none⟩ = some (.int .i64 x) := F3.out.cell 0
  have f1 : w3.cell? ⟨w.heap.size, 1, none⟩ = some (.int .i64 y) := F3.out.cell 1
  go_wp2_with fail
  refine (ints_lits w.heap.size v.heap.size 2 _ _ [x, y] _ W3.out (by simp) (by simp) hs3 (by simp) 2).mono ?_
  rintro e w4 ⟨rfl, hw, hk⟩
  have W4 := hide hw
  have K4 := hide (K3.out.trans hk)
  have F4 := hide (hk.blk F3.out hne (by decide))
  have hs4 : w.heap.size ≤ w4.heap.size := (KB.out.trans K4.out).1.size
  clear hw hk
  clear f0 f1
  have f2 : w4.cell? ⟨w.heap.size, 2, none⟩ = some (.int .i64 f.bits) := F4.out.cell 2
  have f3 : w4.cell? ⟨w.heap.size, 3, none⟩ = some (.int .i64 f.depth) := F4.out.cell 3
  have f4 : w4.cell? ⟨w.heap.size, 4, none⟩ = some (.bool f.big) := F4.out.cell 4
  have f5 : w4.cell? ⟨w.heap.size, 5, none⟩ = some (.bool f.tru) := F4.out.cell 5
  have f6 : w4.cell? ⟨w.heap.size, 6, none⟩ = some (.int .i64 f.rm) := F4.out.cell 6
  have f7 : w4.cell? ⟨w.heap.size, 7, none⟩ = some (.int .i64 f.gm) := F4.out.cell 7
  have f8 : w4.cell? ⟨w.heap.size, 8, none⟩ = some (.int .i64 f.bm) := F4.out.cell 8
  have f9 : w4.cell? ⟨w.heap.size, 9, none⟩ = some (.int .i64 f.rs) := F4.out.cell 9
  have f10 : w4.cell? ⟨w.heap.size, 10, none⟩ = some (.int .i64 f.gs) := F4.out.cell 10
  have f11 : w4.cell? ⟨w.heap.size, 11, none⟩ = some (.int .i64 f.bs) := F4.out.cell 11
  go_wp2_with fail
  refine (fbytes_any f _).mono ?_
  rintro e w5 ⟨rfl, hb⟩
  have W5 := hide (W4.out.below hb)
  have K5 := hide (K4.out.trans (WKeep.of hb hs4))
  have F5 := hide (F4.out.below hb)
  have hs5 : w.heap.size ≤ w5.heap.size := (KB.out.trans K5.out).1.size
  clear hb
  clear f2 f3 f4 f5 f6 f7 f8 f9 f10 f11
  have hL1 : Hid ((([] : List UInt8) ++ intsL 2 [x, y]).length + (bytesF f).size ≤ 100) := hide (by have := intsL_le 2 [x, y]; have := bytesF_size f; simp only [List.length_cons, List.length_nil] at *; rw [List.nil_append]; omega)
  have hL2 : Hid ((([] : List UInt8) ++ intsL 2 [x, y]).length + (bytesF f).size ≤ 140737488355328) := hide (Nat.le_trans hL1.out (by decide))
  go_wp2_with fail
  refine (wwrite_any w.heap.size v.heap.size _ _ (bytesF f) _ W5.out hL2.out hs5).mono ?_
  rintro e w6 ⟨rfl, hw, hk⟩
  have W6 := hide hw
  have K6 := hide (K5.out.trans hk)
  have F6 := hide (hk.blk F5.out hne (by decide))
  have hs6 : w.heap.size ≤ w6.heap.size := (KB.out.trans K6.out).1.size
  clear hw hk
  have hL3 : Hid ((([] : List UInt8) ++ intsL 2 [x, y] ++ (bytesF f).data.toList).length ≤ 109951162777) := hide (by have h1 := hL1.out; have h2 : (bytesF f).data.toList.length = (bytesF f).size := (by rw [Array.length_toList]; rfl); rw [List.length_append, h2]; omega)
  have f12 : w6.cell? ⟨w.heap.size, 12, none⟩ = some (.string nm) := F6.out.cell 12
  go_wp2_with fail
  refine (text103_any w.heap.size v.heap.size _ _ nm _ W6 hL3.out hnm hs6).mono ?_
  rintro e w7 ⟨rfl, hw, hk⟩
  have W7 := hide hw
  have K7 := hide (K6.out.trans hk)
  have F7 := hide (hk.blk F6.out hne (by decide))
  have hs7 : w.heap.size ≤ w7.heap.size := (KB.out.trans K7.out).1.size
  clear hw hk
  clear f12
  go_wp2_with fail
  refine (done_any w.heap.size v.heap.size _ _ _ W7.out).mono ?_
  rintro e w8 ⟨rfl, hk⟩
  have K8 := hide (K7.out.trans hk)
  clear hk
  go_wp2_with fail
  go_ret2
  unfold staL staE
  exact ⟨rfl, (KB.out.trans K8.out).1⟩

set_option maxHeartbeats 3200000 in
set_option maxRecDepth 100000 in
theorem bytes51_ok (x y : Int) (f : Fmt) (nm : ByteArray) (w : World) (hf : f.fit) (hnm : nm.size ≤ 109951162777) (hx : (x != 0) = true) (hy : (y != 0) = true) :
    Calls Try.prog 51 #[.agg (staC x y f nm)] w fun e w' => e = .returned (.tuple #[.string (doneS (staL x y f nm) (staE x y f nm true)), .int .i64 (staE x y f nm true)]) ∧ Below w.heap.size w w' := by
  have F := hide (Blk.new w 58 #[.int .i64 x, .int .i64 y, .int .i64 f.bits, .int .i64 f.depth, .bool f.big, .bool f.tru, .int .i64 f.rm, .int .i64 f.gm, .int .i64 f.bm, .int .i64 f.rs, .int .i64 f.gs, .int .i64 f.bs, .string nm])
  have B := hide ((Below.refl w.heap.size w).alloc (Nat.le_refl _) (.cells #[.int .i64 x, .int .i64 y, .int .i64 f.bits, .int .i64 f.depth, .bool f.big, .bool f.tru, .int .i64 f.rm, .int .i64 f.gm, .int .i64 f.bm, .int .i64 f.rs, .int .i64 f.gs, .int .i64 f.bs, .string nm] 58))
  have Z := hide (World.size_alloc w (.cells #[.int .i64 x, .int .i64 y, .int .i64 f.bits, .int .i64 f.depth, .bool f.big, .bool f.tru, .int .i64 f.rm, .int .i64 f.gm, .int .i64 f.bm, .int .i64 f.rs, .int .i64 f.gs, .int .i64 f.bs, .string nm] 58))
  go_enter Try.func51, Try.ntmps51
  go_upto_region 1 with fail
  generalize w.alloc (.cells #[.int .i64 x, .int .i64 y, .int .i64 f.bits, .int .i64 f.depth, .bool f.big, .bool f.tru, .int .i64 f.rm, .int .i64 f.gm, .int .i64 f.bm, .int .i64 f.rs, .int .i64 f.gs, .int .i64 f.bs, .string nm] 58) = v at *
  have W0 := hide (IsW.fresh w.heap.size v (by rw [Z.out]; omega))
  have K0 := hide (WKeep.of (b := v.heap.size) ((Below.refl v.heap.size v).alloc (Nat.le_refl _) (.cells #[.pointer none, .slice none 0 0, .int .i64 0] 128)) (show w.heap.size ≤ v.heap.size by rw [Z.out]; omega))
  have F0 := hide (F.out.alloc (.cells #[.pointer none, .slice none 0 0, .int .i64 0] 128))
  have KB := hide (show WKeep w.heap.size v.heap.size w v from ⟨B.out, fun k o hk _ _ => (B.out.block k (Array.getElem?_eq_some_iff.1 hk).1).trans hk⟩)
  have hs0 : w.heap.size ≤ (v.alloc (.cells #[.pointer none, .slice none 0 0, .int .i64 0] 128)).heap.size := by rw [World.size_alloc, Z.out]; omega
  have hne : w.heap.size ≠ v.heap.size := by rw [Z.out]; omega
  go_upto_region 2 with fail
  generalize v.alloc (.cells #[.pointer none, .slice none 0 0, .int .i64 0] 128) = w0 at *
  clear F B
  have f2 : w0.cell? ⟨w.heap.size, 2, none⟩ = some (.int .i64 f.bits) := F0.out.cell 2
  have f3 : w0.cell? ⟨w.heap.size, 3, none⟩ = some (.int .i64 f.depth) := F0.out.cell 3
  have f4 : w0.cell? ⟨w.heap.size, 4, none⟩ = some (.bool f.big) := F0.out.cell 4
  have f5 : w0.cell? ⟨w.heap.size, 5, none⟩ = some (.bool f.tru) := F0.out.cell 5
  have f6 : w0.cell? ⟨w.heap.size, 6, none⟩ = some (.int .i64 f.rm) := F0.out.cell 6
  have f7 : w0.cell? ⟨w.heap.size, 7, none⟩ = some (.int .i64 f.gm) := F0.out.cell 7
  have f8 : w0.cell? ⟨w.heap.size, 8, none⟩ = some (.int .i64 f.bm) := F0.out.cell 8
  have f9 : w0.cell? ⟨w.heap.size, 9, none⟩ = some (.int .i64 f.rs) := F0.out.cell 9
  have f10 : w0.cell? ⟨w.heap.size, 10, none⟩ = some (.int .i64 f.gs) := F0.out.cell 10
  have f11 : w0.cell? ⟨w.heap.size, 11, none⟩ = some (.int .i64 f.bs) := F0.out.cell 11
  go_wp2_with fail
  refine (valid_fit f _ hf).mono ?_
  rintro e w1 ⟨rfl, hb⟩
  have W1 := hide (W0.out.below hb)
  have K1 := hide (K0.out.trans (WKeep.of hb hs0))
  have F1 := hide (F0.out.below hb)
  have hs1 : w.heap.size ≤ w1.heap.size := (KB.out.trans K1.out).1.size
  clear hb
  clear f2 f3 f4 f5 f6 f7 f8 f9 f10 f11
  go_wp2_with fail
  refine (check98_any w.heap.size v.heap.size [] 0 130 (validB f) _ W1.out).mono ?_
  rintro e w2 ⟨rfl, hw, hk⟩
  have W2 := hide hw
  have K2 := hide (K1.out.trans hk)
  have F2 := hide (hk.blk F1.out hne (by decide))
  have hs2 : w.heap.size ≤ w2.heap.size := (KB.out.trans K2.out).1.size
  clear hw hk
  have f0 : w2.cell? ⟨w.heap.size, 0, none⟩ = some (.int .i64 x) := F2.out.cell 0
  have f1 : w2.cell? ⟨w.heap.size, 1, none⟩ = some (.int .i64 y) := F2.out.cell 1
  go_wp2_with fail
  refine (check98_any w.heap.size v.heap.size [] _ 1 true _ W2.out).mono ?_
  rintro e w3 ⟨rfl, hw, hk⟩
  have W3 := hide hw
  have K3 := hide (K2.out.trans hk)
  have F3 := hide (hk.blk F2.out hne (by decide))
  have hs3 : w.heap.size ≤ w3.heap.size := (KB.out.trans K3.out).1.size
  clear hw hk
  clear f0 f1
  have f0 : w3.cell? ⟨w.heap.size, 0, none⟩ = some (.int .i64 x) := F3.out.cell 0
  have f1 : w3.cell? ⟨w.heap.size, 1, none⟩ = some (.int .i64 y) := F3.out.cell 1
  go_wp2_with fail
  refine (ints_lits w.heap.size v.heap.size 2 _ _ [x, y] _ W3.out (by simp) (by simp) hs3 (by simp) 2).mono ?_
  rintro e w4 ⟨rfl, hw, hk⟩
  have W4 := hide hw
  have K4 := hide (K3.out.trans hk)
  have F4 := hide (hk.blk F3.out hne (by decide))
  have hs4 : w.heap.size ≤ w4.heap.size := (KB.out.trans K4.out).1.size
  clear hw hk
  clear f0 f1
  have f2 : w4.cell? ⟨w.heap.size, 2, none⟩ = some (.int .i64 f.bits) := F4.out.cell 2
  have f3 : w4.cell? ⟨w.heap.size, 3, none⟩ = some (.int .i64 f.depth) := F4.out.cell 3
  have f4 : w4.cell? ⟨w.heap.size, 4, none⟩ = some (.bool f.big) := F4.out.cell 4
  have f5 : w4.cell? ⟨w.heap.size, 5, none⟩ = some (.bool f.tru) := F4.out.cell 5
  have f6 : w4.cell? ⟨w.heap.size, 6, none⟩ = some (.int .i64 f.rm) := F4.out.cell 6
  have f7 : w4.cell? ⟨w.heap.size, 7, none⟩ = some (.int .i64 f.gm) := F4.out.cell 7
  have f8 : w4.cell? ⟨w.heap.size, 8, none⟩ = some (.int .i64 f.bm) := F4.out.cell 8
  have f9 : w4.cell? ⟨w.heap.size, 9, none⟩ = some (.int .i64 f.rs) := F4.out.cell 9
  have f10 : w4.cell? ⟨w.heap.size, 10, none⟩ = some (.int .i64 f.gs) := F4.out.cell 10
  have f11 : w4.cell? ⟨w.heap.size, 11, none⟩ = some (.int .i64 f.bs) := F4.out.cell 11
  go_wp2_with fail
  refine (fbytes_any f _).mono ?_
  rintro e w5 ⟨rfl, hb⟩
  have W5 := hide (W4.out.below hb)
  have K5 := hide (K4.out.trans (WKeep.of hb hs4))
  have F5 := hide (F4.out.below hb)
  have hs5 : w.heap.size ≤ w5.heap.size := (KB.out.trans K5.out).1.size
  clear hb
  clear f2 f3 f4 f5 f6 f7 f8 f9 f10 f11
  have hL1 : Hid ((([] : List UInt8) ++ intsL 2 [x, y]).length + (bytesF f).size ≤ 100) := hide (by have := intsL_le 2 [x, y]; have := bytesF_size f; simp only [List.length_cons, List.length_nil] at *; rw [List.nil_append]; omega)
  have hL2 : Hid ((([] : List UInt8) ++ intsL 2 [x, y]).length + (bytesF f).size ≤ 140737488355328) := hide (Nat.le_trans hL1.out (by decide))
  go_wp2_with fail
  refine (wwrite_any w.heap.size v.heap.size _ _ (bytesF f) _ W5.out hL2.out hs5).mono ?_
  rintro e w6 ⟨rfl, hw, hk⟩
  have W6 := hide hw
  have K6 := hide (K5.out.trans hk)
  have F6 := hide (hk.blk F5.out hne (by decide))
  have hs6 : w.heap.size ≤ w6.heap.size := (KB.out.trans K6.out).1.size
  clear hw hk
  have hL3 : Hid ((([] : List UInt8) ++ intsL 2 [x, y] ++ (bytesF f).data.toList).length ≤ 109951162777) := hide (by have h1 := hL1.out; have h2 : (bytesF f).data.toList.length = (bytesF f).size := (by rw [Array.length_toList]; rfl); rw [List.length_append, h2]; omega)
  have f12 : w6.cell? ⟨w.heap.size, 12, none⟩ = some (.string nm) := F6.out.cell 12
  go_wp2_with fail
  refine (text103_any w.heap.size v.heap.size _ _ nm _ W6 hL3.out hnm hs6).mono ?_
  rintro e w7 ⟨rfl, hw, hk⟩
  have W7 := hide hw
  have K7 := hide (K6.out.trans hk)
  have F7 := hide (hk.blk F6.out hne (by decide))
  have hs7 : w.heap.size ≤ w7.heap.size := (KB.out.trans K7.out).1.size
  clear hw hk
  clear f12
  go_wp2_with fail
  refine (done_any w.heap.size v.heap.size _ _ _ W7.out).mono ?_
  rintro e w8 ⟨rfl, hk⟩
  have K8 := hide (K7.out.trans hk)
  clear hk
  go_wp2_with fail
  go_ret2
  unfold staL staE
  exact ⟨rfl, (KB.out.trans K8.out).1⟩

/-- servermsg.Bytes: a start. -/
theorem bytes51_any (x y : Int) (f : Fmt) (nm : ByteArray) (w : World) (hf : f.fit) (hnm : nm.size ≤ 109951162777) :
    Calls Try.prog 51 #[.agg (staC x y f nm)] w fun e w' => e = .returned (.tuple #[.string (doneS (staL x y f nm) (staE x y f nm (x != 0 && y != 0))), .int .i64 (staE x y f nm (x != 0 && y != 0))]) ∧ Below w.heap.size w w' := by
  cases hx : x != 0 with
  | false => exact bytes51_x x y f nm w hf hnm hx
  | true =>
    cases hy : y != 0 with
    | false => exact bytes51_y x y f nm w hf hnm hx hy
    | true => exact bytes51_ok x y f nm w hf hnm hx hy

set_option maxHeartbeats 3200000 in
set_option maxRecDepth 100000 in
theorem say_update (fl : Bool) (n a b c d : Int) (f : Fmt) (en : Value) (t : ByteArray) (w : World)  :
    Calls Try.prog 55 #[.agg (msgC 6 fl n a b c d f en t)] w fun e w' => e = .returned (.tuple #[.string (doneS (intsL 1 [0, 0] ++ intsL 2 [n]) (intsE 2 (intsE 1 0 [0, 0]) [n])), .int .i64 (intsE 2 (intsE 1 0 [0, 0]) [n])]) ∧ Below w.heap.size w w' := by
  have F := hide (Blk.new w 65 #[.int .i64 6, .bool fl, .int .i64 n, .int .i64 a, .int .i64 b, .int .i64 c, .int .i64 d, .int .i64 f.bits, .int .i64 f.depth, .bool f.big, .bool f.tru, .int .i64 f.rm, .int .i64 f.gm, .int .i64 f.bm, .int .i64 f.rs, .int .i64 f.gs, .int .i64 f.bs, en, .string t])
  have B := hide ((Below.refl w.heap.size w).alloc (Nat.le_refl _) (.cells #[.int .i64 6, .bool fl, .int .i64 n, .int .i64 a, .int .i64 b, .int .i64 c, .int .i64 d, .int .i64 f.bits, .int .i64 f.depth, .bool f.big, .bool f.tru, .int .i64 f.rm, .int .i64 f.gm, .int .i64 f.bm, .int .i64 f.rs, .int .i64 f.gs, .int .i64 f.bs, en, .string t] 65))
  have Z := hide (World.size_alloc w (.cells #[.int .i64 6, .bool fl, .int .i64 n, .int .i64 a, .int .i64 b, .int .i64 c, .int .i64 d, .int .i64 f.bits, .int .i64 f.depth, .bool f.big, .bool f.tru, .int .i64 f.rm, .int .i64 f.gm, .int .i64 f.bm, .int .i64 f.rs, .int .i64 f.gs, .int .i64 f.bs, en, .string t] 65))
  go_enter Try.func55, Try.ntmps55
  go_upto_region 1 with fail
  generalize w.alloc (.cells #[.int .i64 6, .bool fl, .int .i64 n, .int .i64 a, .int .i64 b, .int .i64 c, .int .i64 d, .int .i64 f.bits, .int .i64 f.depth, .bool f.big, .bool f.tru, .int .i64 f.rm, .int .i64 f.gm, .int .i64 f.bm, .int .i64 f.rs, .int .i64 f.gs, .int .i64 f.bs, en, .string t] 65) = v at *
  have W0 := hide (IsW.fresh w.heap.size v (by rw [Z.out]; omega))
  have K0 := hide (WKeep.of (b := v.heap.size) ((Below.refl v.heap.size v).alloc (Nat.le_refl _) (.cells #[.pointer none, .slice none 0 0, .int .i64 0] 128)) (show w.heap.size ≤ v.heap.size by rw [Z.out]; omega))
  have F0 := hide (F.out.alloc (.cells #[.pointer none, .slice none 0 0, .int .i64 0] 128))
  have KB := hide (show WKeep w.heap.size v.heap.size w v from ⟨B.out, fun k o hk _ _ => (B.out.block k (Array.getElem?_eq_some_iff.1 hk).1).trans hk⟩)
  have hs0 : w.heap.size ≤ (v.alloc (.cells #[.pointer none, .slice none 0 0, .int .i64 0] 128)).heap.size := by rw [World.size_alloc, Z.out]; omega
  have hne : w.heap.size ≠ v.heap.size := by rw [Z.out]; omega
  go_upto_region 2 with fail
  generalize v.alloc (.cells #[.pointer none, .slice none 0 0, .int .i64 0] 128) = w0 at *
  clear F B
  have f0 : w0.cell? ⟨w.heap.size, 0, none⟩ = some (.int .i64 6) := F0.out.cell 0
  go_wp2_with fail
  refine (ints_lits w.heap.size v.heap.size 1 _ _ [0, 0] _ W0.out (by simp) (by simp) hs0 (by simp) 2).mono ?_
  rintro e w1 ⟨rfl, hw, hk⟩
  have W1 := hide hw
  have K1 := hide (K0.out.trans hk)
  have F1 := hide (hk.blk F0.out hne (by decide))
  have hs1 : w.heap.size ≤ w1.heap.size := (KB.out.trans K1.out).1.size
  clear hw hk
  clear f0
  have hL1 : Hid ((([] : List UInt8) ++ intsL 1 [0, 0]).length ≤ 1099511627776) := hide (by have := intsL_le 1 [0, 0]; simp only [List.length_cons, List.length_nil] at this; rw [List.nil_append]; omega)
  have f2 : w1.cell? ⟨w.heap.size, 2, none⟩ = some (.int .i64 n) := F1.out.cell 2
  go_wp2_with fail
  refine (ints_lits w.heap.size v.heap.size 2 _ _ [n] _ W1.out (by simp) hL1.out hs1 (by simp) 1).mono ?_
  rintro e w2 ⟨rfl, hw, hk⟩
  have W2 := hide hw
  have K2 := hide (K1.out.trans hk)
  have F2 := hide (hk.blk F1.out hne (by decide))
  have hs2 : w.heap.size ≤ w2.heap.size := (KB.out.trans K2.out).1.size
  clear hw hk
  clear f2
  go_wp2_with fail
  refine (done_any w.heap.size v.heap.size _ _ _ W2.out).mono ?_
  rintro e w3 ⟨rfl, hk⟩
  have K3 := hide (K2.out.trans hk)
  clear hk
  go_wp2_with fail
  go_ret2
  exact ⟨rfl, (KB.out.trans K3.out).1⟩

set_option maxHeartbeats 3200000 in
set_option maxRecDepth 100000 in
theorem say_bell (fl : Bool) (n a b c d : Int) (f : Fmt) (en : Value) (t : ByteArray) (w : World)  :
    Calls Try.prog 55 #[.agg (msgC 7 fl n a b c d f en t)] w fun e w' => e = .returned (.tuple #[.string (doneS (intsL 1 [2]) (intsE 1 0 [2])), .int .i64 (intsE 1 0 [2])]) ∧ Below w.heap.size w w' := by
  have F := hide (Blk.new w 65 #[.int .i64 7, .bool fl, .int .i64 n, .int .i64 a, .int .i64 b, .int .i64 c, .int .i64 d, .int .i64 f.bits, .int .i64 f.depth, .bool f.big, .bool f.tru, .int .i64 f.rm, .int .i64 f.gm, .int .i64 f.bm, .int .i64 f.rs, .int .i64 f.gs, .int .i64 f.bs, en, .string t])
  have B := hide ((Below.refl w.heap.size w).alloc (Nat.le_refl _) (.cells #[.int .i64 7, .bool fl, .int .i64 n, .int .i64 a, .int .i64 b, .int .i64 c, .int .i64 d, .int .i64 f.bits, .int .i64 f.depth, .bool f.big, .bool f.tru, .int .i64 f.rm, .int .i64 f.gm, .int .i64 f.bm, .int .i64 f.rs, .int .i64 f.gs, .int .i64 f.bs, en, .string t] 65))
  have Z := hide (World.size_alloc w (.cells #[.int .i64 7, .bool fl, .int .i64 n, .int .i64 a, .int .i64 b, .int .i64 c, .int .i64 d, .int .i64 f.bits, .int .i64 f.depth, .bool f.big, .bool f.tru, .int .i64 f.rm, .int .i64 f.gm, .int .i64 f.bm, .int .i64 f.rs, .int .i64 f.gs, .int .i64 f.bs, en, .string t] 65))
  go_enter Try.func55, Try.ntmps55
  go_upto_region 1 with fail
  generalize w.alloc (.cells #[.int .i64 7, .bool fl, .int .i64 n, .int .i64 a, .int .i64 b, .int .i64 c, .int .i64 d, .int .i64 f.bits, .int .i64 f.depth, .bool f.big, .bool f.tru, .int .i64 f.rm, .int .i64 f.gm, .int .i64 f.bm, .int .i64 f.rs, .int .i64 f.gs, .int .i64 f.bs, en, .string t] 65) = v at *
  have W0 := hide (IsW.fresh w.heap.size v (by rw [Z.out]; omega))
  have K0 := hide (WKeep.of (b := v.heap.size) ((Below.refl v.heap.size v).alloc (Nat.le_refl _) (.cells #[.pointer none, .slice none 0 0, .int .i64 0] 128)) (show w.heap.size ≤ v.heap.size by rw [Z.out]; omega))
  have F0 := hide (F.out.alloc (.cells #[.pointer none, .slice none 0 0, .int .i64 0] 128))
  have KB := hide (show WKeep w.heap.size v.heap.size w v from ⟨B.out, fun k o hk _ _ => (B.out.block k (Array.getElem?_eq_some_iff.1 hk).1).trans hk⟩)
  have hs0 : w.heap.size ≤ (v.alloc (.cells #[.pointer none, .slice none 0 0, .int .i64 0] 128)).heap.size := by rw [World.size_alloc, Z.out]; omega
  have hne : w.heap.size ≠ v.heap.size := by rw [Z.out]; omega
  go_upto_region 2 with fail
  generalize v.alloc (.cells #[.pointer none, .slice none 0 0, .int .i64 0] 128) = w0 at *
  clear F B
  have f0 : w0.cell? ⟨w.heap.size, 0, none⟩ = some (.int .i64 7) := F0.out.cell 0
  go_wp2_with fail
  refine (ints_lits w.heap.size v.heap.size 1 _ _ [2] _ W0.out (by simp) (by simp) hs0 (by simp) 1).mono ?_
  rintro e w1 ⟨rfl, hw, hk⟩
  have W1 := hide hw
  have K1 := hide (K0.out.trans hk)
  have F1 := hide (hk.blk F0.out hne (by decide))
  have hs1 : w.heap.size ≤ w1.heap.size := (KB.out.trans K1.out).1.size
  clear hw hk
  clear f0
  go_wp2_with fail
  refine (done_any w.heap.size v.heap.size _ _ _ W1.out).mono ?_
  rintro e w2 ⟨rfl, hk⟩
  have K2 := hide (K1.out.trans hk)
  clear hk
  go_wp2_with fail
  go_ret2
  exact ⟨rfl, (KB.out.trans K2.out).1⟩

set_option maxHeartbeats 3200000 in
set_option maxRecDepth 100000 in
theorem say_cut (fl : Bool) (n a b c d : Int) (f : Fmt) (en : Value) (t : ByteArray) (w : World) (ht : t.size ≤ 109951162777) :
    Calls Try.prog 55 #[.agg (msgC 5 fl n a b c d f en t)] w fun e w' => e = .returned (.tuple #[.string (doneS (intsL 1 [3, 0, 0, 0] ++ txtL t) (intsE 4 (txtE (intsE 1 0 [3, 0, 0, 0]) t) [(t.size : Int)])), .int .i64 (intsE 4 (txtE (intsE 1 0 [3, 0, 0, 0]) t) [(t.size : Int)])]) ∧ Below w.heap.size w w' := by
  have F := hide (Blk.new w 65 #[.int .i64 5, .bool fl, .int .i64 n, .int .i64 a, .int .i64 b, .int .i64 c, .int .i64 d, .int .i64 f.bits, .int .i64 f.depth, .bool f.big, .bool f.tru, .int .i64 f.rm, .int .i64 f.gm, .int .i64 f.bm, .int .i64 f.rs, .int .i64 f.gs, .int .i64 f.bs, en, .string t])
  have B := hide ((Below.refl w.heap.size w).alloc (Nat.le_refl _) (.cells #[.int .i64 5, .bool fl, .int .i64 n, .int .i64 a, .int .i64 b, .int .i64 c, .int .i64 d, .int .i64 f.bits, .int .i64 f.depth, .bool f.big, .bool f.tru, .int .i64 f.rm, .int .i64 f.gm, .int .i64 f.bm, .int .i64 f.rs, .int .i64 f.gs, .int .i64 f.bs, en, .string t] 65))
  have Z := hide (World.size_alloc w (.cells #[.int .i64 5, .bool fl, .int .i64 n, .int .i64 a, .int .i64 b, .int .i64 c, .int .i64 d, .int .i64 f.bits, .int .i64 f.depth, .bool f.big, .bool f.tru, .int .i64 f.rm, .int .i64 f.gm, .int .i64 f.bm, .int .i64 f.rs, .int .i64 f.gs, .int .i64 f.bs, en, .string t] 65))
  go_enter Try.func55, Try.ntmps55
  go_upto_region 1 with fail
  generalize w.alloc (.cells #[.int .i64 5, .bool fl, .int .i64 n, .int .i64 a, .int .i64 b, .int .i64 c, .int .i64 d, .int .i64 f.bits, .int .i64 f.depth, .bool f.big, .bool f.tru, .int .i64 f.rm, .int .i64 f.gm, .int .i64 f.bm, .int .i64 f.rs, .int .i64 f.gs, .int .i64 f.bs, en, .string t] 65) = v at *
  have W0 := hide (IsW.fresh w.heap.size v (by rw [Z.out]; omega))
  have K0 := hide (WKeep.of (b := v.heap.size) ((Below.refl v.heap.size v).alloc (Nat.le_refl _) (.cells #[.pointer none, .slice none 0 0, .int .i64 0] 128)) (show w.heap.size ≤ v.heap.size by rw [Z.out]; omega))
  have F0 := hide (F.out.alloc (.cells #[.pointer none, .slice none 0 0, .int .i64 0] 128))
  have KB := hide (show WKeep w.heap.size v.heap.size w v from ⟨B.out, fun k o hk _ _ => (B.out.block k (Array.getElem?_eq_some_iff.1 hk).1).trans hk⟩)
  have hs0 : w.heap.size ≤ (v.alloc (.cells #[.pointer none, .slice none 0 0, .int .i64 0] 128)).heap.size := by rw [World.size_alloc, Z.out]; omega
  have hne : w.heap.size ≠ v.heap.size := by rw [Z.out]; omega
  go_upto_region 2 with fail
  generalize v.alloc (.cells #[.pointer none, .slice none 0 0, .int .i64 0] 128) = w0 at *
  clear F B
  have f0 : w0.cell? ⟨w.heap.size, 0, none⟩ = some (.int .i64 5) := F0.out.cell 0
  go_wp2_with fail
  refine (ints_lits w.heap.size v.heap.size 1 _ _ [3, 0, 0, 0] _ W0.out (by simp) (by simp) hs0 (by simp) 4).mono ?_
  rintro e w1 ⟨rfl, hw, hk⟩
  have W1 := hide hw
  have K1 := hide (K0.out.trans hk)
  have F1 := hide (hk.blk F0.out hne (by decide))
  have hs1 : w.heap.size ≤ w1.heap.size := (KB.out.trans K1.out).1.size
  clear hw hk
  clear f0
  have hL1 : Hid ((([] : List UInt8) ++ intsL 1 [3, 0, 0, 0]).length ≤ 109951162777) := hide (by have := intsL_le 1 [3, 0, 0, 0]; simp only [List.length_cons, List.length_nil] at this; rw [List.nil_append]; omega)
  have f18 : w1.cell? ⟨w.heap.size, 18, none⟩ = some (.string t) := F1.out.cell 18
  go_wp2_with fail
  refine (text103_any w.heap.size v.heap.size _ _ t _ W1 hL1.out ht hs1).mono ?_
  rintro e w2 ⟨rfl, hw, hk⟩
  have W2 := hide hw
  have K2 := hide (K1.out.trans hk)
  have F2 := hide (hk.blk F1.out hne (by decide))
  have hs2 : w.heap.size ≤ w2.heap.size := (KB.out.trans K2.out).1.size
  clear hw hk
  clear f18
  go_wp2_with fail
  refine (done_any w.heap.size v.heap.size _ _ _ W2.out).mono ?_
  rintro e w3 ⟨rfl, hk⟩
  have K3 := hide (K2.out.trans hk)
  clear hk
  go_wp2_with fail
  go_ret2
  exact ⟨rfl, (KB.out.trans K3.out).1⟩

set_option maxHeartbeats 3200000 in
set_option maxRecDepth 100000 in
theorem say_none (kd : Int) (fl : Bool) (n a b c d : Int) (f : Fmt) (en : Value) (t : ByteArray) (w : World) (h6 : (kd == 6) = false) (h7 : (kd == 7) = false) (h5 : (kd == 5) = false) :
    Calls Try.prog 55 #[.agg (msgC kd fl n a b c d f en t)] w fun e w' => e = .returned (.tuple #[.string (doneS ([]) (1)), .int .i64 (1)]) ∧ Below w.heap.size w w' := by
  have F := hide (Blk.new w 65 #[.int .i64 kd, .bool fl, .int .i64 n, .int .i64 a, .int .i64 b, .int .i64 c, .int .i64 d, .int .i64 f.bits, .int .i64 f.depth, .bool f.big, .bool f.tru, .int .i64 f.rm, .int .i64 f.gm, .int .i64 f.bm, .int .i64 f.rs, .int .i64 f.gs, .int .i64 f.bs, en, .string t])
  have B := hide ((Below.refl w.heap.size w).alloc (Nat.le_refl _) (.cells #[.int .i64 kd, .bool fl, .int .i64 n, .int .i64 a, .int .i64 b, .int .i64 c, .int .i64 d, .int .i64 f.bits, .int .i64 f.depth, .bool f.big, .bool f.tru, .int .i64 f.rm, .int .i64 f.gm, .int .i64 f.bm, .int .i64 f.rs, .int .i64 f.gs, .int .i64 f.bs, en, .string t] 65))
  have Z := hide (World.size_alloc w (.cells #[.int .i64 kd, .bool fl, .int .i64 n, .int .i64 a, .int .i64 b, .int .i64 c, .int .i64 d, .int .i64 f.bits, .int .i64 f.depth, .bool f.big, .bool f.tru, .int .i64 f.rm, .int .i64 f.gm, .int .i64 f.bm, .int .i64 f.rs, .int .i64 f.gs, .int .i64 f.bs, en, .string t] 65))
  go_enter Try.func55, Try.ntmps55
  go_upto_region 1 with fail
  generalize w.alloc (.cells #[.int .i64 kd, .bool fl, .int .i64 n, .int .i64 a, .int .i64 b, .int .i64 c, .int .i64 d, .int .i64 f.bits, .int .i64 f.depth, .bool f.big, .bool f.tru, .int .i64 f.rm, .int .i64 f.gm, .int .i64 f.bm, .int .i64 f.rs, .int .i64 f.gs, .int .i64 f.bs, en, .string t] 65) = v at *
  have W0 := hide (IsW.fresh w.heap.size v (by rw [Z.out]; omega))
  have K0 := hide (WKeep.of (b := v.heap.size) ((Below.refl v.heap.size v).alloc (Nat.le_refl _) (.cells #[.pointer none, .slice none 0 0, .int .i64 0] 128)) (show w.heap.size ≤ v.heap.size by rw [Z.out]; omega))
  have F0 := hide (F.out.alloc (.cells #[.pointer none, .slice none 0 0, .int .i64 0] 128))
  have KB := hide (show WKeep w.heap.size v.heap.size w v from ⟨B.out, fun k o hk _ _ => (B.out.block k (Array.getElem?_eq_some_iff.1 hk).1).trans hk⟩)
  have hs0 : w.heap.size ≤ (v.alloc (.cells #[.pointer none, .slice none 0 0, .int .i64 0] 128)).heap.size := by rw [World.size_alloc, Z.out]; omega
  have hne : w.heap.size ≠ v.heap.size := by rw [Z.out]; omega
  go_upto_region 2 with fail
  generalize v.alloc (.cells #[.pointer none, .slice none 0 0, .int .i64 0] 128) = w0 at *
  clear F B
  have f0 : w0.cell? ⟨w.heap.size, 0, none⟩ = some (.int .i64 kd) := F0.out.cell 0
  go_wp2_with fail
  refine (check98_any w.heap.size v.heap.size [] _ 1 false _ W0.out).mono ?_
  rintro e w1 ⟨rfl, hw, hk⟩
  have W1 := hide hw
  have K1 := hide (K0.out.trans hk)
  have F1 := hide (hk.blk F0.out hne (by decide))
  have hs1 : w.heap.size ≤ w1.heap.size := (KB.out.trans K1.out).1.size
  clear hw hk
  clear f0
  go_wp2_with fail
  refine (done_any w.heap.size v.heap.size _ _ _ W1.out).mono ?_
  rintro e w2 ⟨rfl, hk⟩
  have K2 := hide (K1.out.trans hk)
  clear hk
  go_wp2_with fail
  go_ret2
  exact ⟨rfl, (KB.out.trans K2.out).1⟩

end Go.Proofs.Ytodlpofpeoiedaa
