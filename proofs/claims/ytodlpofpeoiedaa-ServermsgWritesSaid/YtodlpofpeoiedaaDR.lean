/-
  miradorlaw23.works.
-/
import Derived.Test.YtodlpofpeoiedaaDQ
import Derived.Deep.DeepCutAuto
namespace Go.Proofs.Ytodlpofpeoiedaa
open Go.RowKit Go.Sort

set_option maxHeartbeats 3200000 in
set_option maxRecDepth 100000 in
theorem works48_a (s0 : ByteArray) (y : Int) (f : Fmt) (w : World) (hz : s0.size ≤ 5000)
    (K49 : Hid (∀ (b : Nat) w, Blk b 3 #[.int .i64 1] w → Calls Try.prog 49 #[.slice (some ⟨b, 0, none⟩) 1 1] w fun e w' => e = .returned (.tuple #[.string ⟨#[1, 1]⟩, .int .i64 0]) ∧ Below w.heap.size w w'))
    (K55 : Hid (∀ w, Calls Try.prog 55 #[.agg (msgC 7 false 0 0 0 0 0 zeroF (.slice none 0 0) ⟨#[]⟩)] w fun e w' => e = .returned (.tuple #[.string ⟨#[2]⟩, .int .i64 0]) ∧ Below w.heap.size w w'))
    (K51 : Hid (∀ w, Calls Try.prog 51 #[.agg (staC 2 1 stdF ⟨#[120]⟩)] w fun e w' => e = .returned (.tuple #[.string s0, .int .i64 0]) ∧ Below w.heap.size w w'))
    (K64 : Hid (∀ w, Calls Try.prog 64 #[.string (s0 ++ ⟨#[121]⟩)] w fun e w' => e = .returned (.tuple #[.agg (staC 2 y f ⟨#[120]⟩), .int .i64 s0.size, .int .i64 0]) ∧ Below w.heap.size w w'))
    (K57 : Hid (∀ w, Calls Try.prog 57 #[.string ⟨#[]⟩] w fun e w' => e = .returned (.string ⟨#[0, 0, 0, 0]⟩) ∧ Below w.heap.size w w')) :
    Calls Try.prog 48 #[] w fun e w' => e = .returned (.bool true) ∧ Below w.heap.size w w' := by
  have B0 := hide (Below.refl w.heap.size w)
  go_enter Try.func48, Try.ntmps48
  go_wp2_with fail
  have B1 := hide (B0.out.alloc B0.out.size (.cells #[.int .i64 1] 3))
  refine (K49.out w.heap.size _ (Blk.new w 3 _)).mono ?_
  rintro e w1 ⟨rfl, hb⟩
  have B3 := hide (B1.out.trans (hb.mono B1.out.size))
  clear hb
  go_wp2_with fail
  refine (K55.out _).mono ?_
  rintro e w2 ⟨rfl, hb⟩
  have B4 := hide (B3.out.trans (hb.mono B3.out.size))
  clear hb
  go_wp2_with fail
  refine (standard_any _).mono ?_
  rintro e w3 ⟨rfl, hb⟩
  have B5 := hide (B4.out.trans (hb.mono B4.out.size))
  clear hb
  go_wp2_with fail
  refine (K51.out _).mono ?_
  rintro e w4 ⟨rfl, hb⟩
  have B6 := hide (B5.out.trans (hb.mono B5.out.size))
  clear hb
  have hcat : (9223372036854775807 < s0.size + 1) = False := eq_false (by omega)
  go_wp2_with fail
  refine (K64.out _).mono ?_
  rintro e w5 ⟨rfl, hb⟩
  have B7 := hide (B6.out.trans (hb.mono B6.out.size))
  clear hb
  have B8 := hide (B7.out.alloc B7.out.size (.cells #[.int .i64 0, .int .i64 0, .int .i64 0, .int .i64 0, .bool false, .bool false, .int .i64 0, .int .i64 0, .int .i64 0, .int .i64 0, .int .i64 0, .int .i64 0, .string ⟨#[]⟩] 58))
  have T6 := hide (Blk.new w5 58 #[.int .i64 0, .int .i64 0, .int .i64 0, .int .i64 0, .bool false, .bool false, .int .i64 0, .int .i64 0, .int .i64 0, .int .i64 0, .int .i64 0, .int .i64 0, .string ⟨#[]⟩])
  have zb := B7.out.size
  dsimp only
  iterate 13 go_step
  first | (refine wpList_store_row rfl 58 (.tmp 7) (.tmp 30) rfl w5.heap.size #[.int .i64 2, .int .i64 y, .int .i64 f.bits, .int .i64 f.depth, .bool f.big, .bool f.tru, .int .i64 f.rm, .int .i64 f.gm, .int .i64 f.bm, .int .i64 f.rs, .int .i64 f.gs, .int .i64 f.bs, .string ⟨#[120]⟩] rfl rfl 58 _ T6.out (by kernel_rfl) rfl (by simp [Value.oneCell']) ?_) | (go_step; refine wpList_store_row rfl 58 (.tmp 7) (.tmp 30) rfl w5.heap.size #[.int .i64 2, .int .i64 y, .int .i64 f.bits, .int .i64 f.depth, .bool f.big, .bool f.tru, .int .i64 f.rm, .int .i64 f.gm, .int .i64 f.bm, .int .i64 f.rs, .int .i64 f.gs, .int .i64 f.bs, .string ⟨#[120]⟩] rfl rfl 58 _ T6.out (by kernel_rfl) rfl (by simp [Value.oneCell']) ?_) | (go_step; go_step; refine wpList_store_row rfl 58 (.tmp 7) (.tmp 30) rfl w5.heap.size #[.int .i64 2, .int .i64 y, .int .i64 f.bits, .int .i64 f.depth, .bool f.big, .bool f.tru, .int .i64 f.rm, .int .i64 f.gm, .int .i64 f.bm, .int .i64 f.rs, .int .i64 f.gs, .int .i64 f.bs, .string ⟨#[120]⟩] rfl rfl 58 _ T6.out (by kernel_rfl) rfl (by simp [Value.oneCell']) ?_) | (go_step; go_step; go_step; refine wpList_store_row rfl 58 (.tmp 7) (.tmp 30) rfl w5.heap.size #[.int .i64 2, .int .i64 y, .int .i64 f.bits, .int .i64 f.depth, .bool f.big, .bool f.tru, .int .i64 f.rm, .int .i64 f.gm, .int .i64 f.bm, .int .i64 f.rs, .int .i64 f.gs, .int .i64 f.bs, .string ⟨#[120]⟩] rfl rfl 58 _ T6.out (by kernel_rfl) rfl (by simp [Value.oneCell']) ?_) | (go_step; go_step; go_step; go_step; refine wpList_store_row rfl 58 (.tmp 7) (.tmp 30) rfl w5.heap.size #[.int .i64 2, .int .i64 y, .int .i64 f.bits, .int .i64 f.depth, .bool f.big, .bool f.tru, .int .i64 f.rm, .int .i64 f.gm, .int .i64 f.bm, .int .i64 f.rs, .int .i64 f.gs, .int .i64 f.bs, .string ⟨#[120]⟩] rfl rfl 58 _ T6.out (by kernel_rfl) rfl (by simp [Value.oneCell']) ?_) | (go_step; go_step; go_step; go_step; go_step; refine wpList_store_row rfl 58 (.tmp 7) (.tmp 30) rfl w5.heap.size #[.int .i64 2, .int .i64 y, .int .i64 f.bits, .int .i64 f.depth, .bool f.big, .bool f.tru, .int .i64 f.rm, .int .i64 f.gm, .int .i64 f.bm, .int .i64 f.rs, .int .i64 f.gs, .int .i64 f.bs, .string ⟨#[120]⟩] rfl rfl 58 _ T6.out (by kernel_rfl) rfl (by simp [Value.oneCell']) ?_) | (go_step; go_step; go_step; go_step; go_step; go_step; refine wpList_store_row rfl 58 (.tmp 7) (.tmp 30) rfl w5.heap.size #[.int .i64 2, .int .i64 y, .int .i64 f.bits, .int .i64 f.depth, .bool f.big, .bool f.tru, .int .i64 f.rm, .int .i64 f.gm, .int .i64 f.bm, .int .i64 f.rs, .int .i64 f.gs, .int .i64 f.bs, .string ⟨#[120]⟩] rfl rfl 58 _ T6.out (by kernel_rfl) rfl (by simp [Value.oneCell']) ?_) | (go_step; go_step; go_step; go_step; go_step; go_step; go_step; refine wpList_store_row rfl 58 (.tmp 7) (.tmp 30) rfl w5.heap.size #[.int .i64 2, .int .i64 y, .int .i64 f.bits, .int .i64 f.depth, .bool f.big, .bool f.tru, .int .i64 f.rm, .int .i64 f.gm, .int .i64 f.bm, .int .i64 f.rs, .int .i64 f.gs, .int .i64 f.bs, .string ⟨#[120]⟩] rfl rfl 58 _ T6.out (by kernel_rfl) rfl (by simp [Value.oneCell']) ?_) | (go_step; go_step; go_step; go_step; go_step; go_step; go_step; go_step; refine wpList_store_row rfl 58 (.tmp 7) (.tmp 30) rfl w5.heap.size #[.int .i64 2, .int .i64 y, .int .i64 f.bits, .int .i64 f.depth, .bool f.big, .bool f.tru, .int .i64 f.rm, .int .i64 f.gm, .int .i64 f.bm, .int .i64 f.rs, .int .i64 f.gs, .int .i64 f.bs, .string ⟨#[120]⟩] rfl rfl 58 _ T6.out (by kernel_rfl) rfl (by simp [Value.oneCell']) ?_) | (go_step; go_step; go_step; go_step; go_step; go_step; go_step; go_step; go_step; refine wpList_store_row rfl 58 (.tmp 7) (.tmp 30) rfl w5.heap.size #[.int .i64 2, .int .i64 y, .int .i64 f.bits, .int .i64 f.depth, .bool f.big, .bool f.tru, .int .i64 f.rm, .int .i64 f.gm, .int .i64 f.bm, .int .i64 f.rs, .int .i64 f.gs, .int .i64 f.bs, .string ⟨#[120]⟩] rfl rfl 58 _ T6.out (by kernel_rfl) rfl (by simp [Value.oneCell']) ?_)
  have T7 := hide (Blk.row (C' := #[.int .i64 2, .int .i64 y, .int .i64 f.bits, .int .i64 f.depth, .bool f.big, .bool f.tru, .int .i64 f.rm, .int .i64 f.gm, .int .i64 f.bm, .int .i64 f.rs, .int .i64 f.gs, .int .i64 f.bs, .string ⟨#[120]⟩]) T6.out)
  have B9 := hide (B8.out.trans (only_below (only_row w5.heap.size (w5.alloc (.cells #[.int .i64 0, .int .i64 0, .int .i64 0, .int .i64 0, .bool false, .bool false, .int .i64 0, .int .i64 0, .int .i64 0, .int .i64 0, .int .i64 0, .int .i64 0, .string ⟨#[]⟩] 58)) #[.int .i64 2, .int .i64 y, .int .i64 f.bits, .int .i64 f.depth, .bool f.big, .bool f.tru, .int .i64 f.rm, .int .i64 f.gm, .int .i64 f.bm, .int .i64 f.rs, .int .i64 f.gs, .int .i64 f.bs, .string ⟨#[120]⟩]) B8.out.size zb))
  generalize (w5.alloc (.cells #[.int .i64 0, .int .i64 0, .int .i64 0, .int .i64 0, .bool false, .bool false, .int .i64 0, .int .i64 0, .int .i64 0, .int .i64 0, .int .i64 0, .int .i64 0, .string ⟨#[]⟩] 58)).setRow w5.heap.size #[.int .i64 2, .int .i64 y, .int .i64 f.bits, .int .i64 f.depth, .bool f.big, .bool f.tru, .int .i64 f.rm, .int .i64 f.gm, .int .i64 f.bm, .int .i64 f.rs, .int .i64 f.gs, .int .i64 f.bs, .string ⟨#[120]⟩] = w7 at *
  have c0 : w7.cell? ⟨w5.heap.size, 0, none⟩ = some (.int .i64 2) := T7.out.cell 0
  have c3 : w7.cell? ⟨w5.heap.size, 12, none⟩ = some (.string ⟨#[120]⟩) := T7.out.cell 12
  go_wp2_with fail
  refine (K57.out _).mono ?_
  rintro e w8 ⟨rfl, hb⟩
  have B10 := hide (B9.out.trans (hb.mono B9.out.size))
  clear hb
  go_wp2_with fail
  go_ret
  exact ⟨rfl, B10.out⟩

end Go.Proofs.Ytodlpofpeoiedaa
