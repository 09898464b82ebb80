/-
  miradorlaw23.ServermsgWrites: the walk.
-/
import Derived.Test.YtodlpofpeoiedaaDS
namespace Go.Proofs.Ytodlpofpeoiedaa
open Go.RowKit Go.Sort

set_option maxHeartbeats 3200000 in
set_option maxRecDepth 100000 in
theorem law10_yes (a0 : Option Addr) (n0 c0 : Nat) (s : ByteArray) (x y : Int) (f : Fmt) (nm : ByteArray) (hx hy hw hh he : Int) (kd : Int) (fl : Bool) (n ma mb mc md : Int) (g : Fmt) (en : Value) (t : ByteArray) (w : World) (hn0 : n0 ≤ 300) (hs : s.size ≤ 5000) (hnm : nm.size ≤ 5000) (ht : t.size ≤ 5000)
    (S1 S2 S3 S4 S5 : ByteArray) (E1 E2 E3 E4 : Int)
    (K49 : Hid (∀ v, Below w.heap.size w v → Calls Try.prog 49 #[.slice a0 n0 c0] v fun e w' => e = .returned (.tuple #[.string S1, .int .i64 E1]) ∧ Below v.heap.size v w'))
    (K50 : Hid (∀ v, Below w.heap.size w v → Calls Try.prog 50 #[.slice a0 n0 c0] v fun e w' => e = .returned (.tuple #[.string S1, .int .i64 E1]) ∧ Below v.heap.size v w'))
    (K51 : Hid (∀ w, Calls Try.prog 51 #[.agg #[.int .i64 x, .int .i64 y, .int .i64 f.bits, .int .i64 f.depth, .bool f.big, .bool f.tru, .int .i64 f.rm, .int .i64 f.gm, .int .i64 f.bm, .int .i64 f.rs, .int .i64 f.gs, .int .i64 f.bs, .string nm]] w fun e w' => e = .returned (.tuple #[.string S2, .int .i64 E2]) ∧ Below w.heap.size w w'))
    (K52 : Hid (∀ w, Calls Try.prog 52 #[.agg #[.int .i64 x, .int .i64 y, .int .i64 f.bits, .int .i64 f.depth, .bool f.big, .bool f.tru, .int .i64 f.rm, .int .i64 f.gm, .int .i64 f.bm, .int .i64 f.rs, .int .i64 f.gs, .int .i64 f.bs, .string nm]] w fun e w' => e = .returned (.tuple #[.string S2, .int .i64 E2]) ∧ Below w.heap.size w w'))
    (K53 : Hid (∀ w, Calls Try.prog 53 #[.agg #[.int .i64 hx, .int .i64 hy, .int .i64 hw, .int .i64 hh, .int .i64 he]] w fun e w' => e = .returned (.tuple #[.string S3, .int .i64 E3]) ∧ Below w.heap.size w w'))
    (K54 : Hid (∀ w, Calls Try.prog 54 #[.agg #[.int .i64 hx, .int .i64 hy, .int .i64 hw, .int .i64 hh], .int .i64 he] w fun e w' => e = .returned (.tuple #[.string S3, .int .i64 E3]) ∧ Below w.heap.size w w'))
    (K55 : Hid (∀ w, Calls Try.prog 55 #[.agg #[.int .i64 kd, .bool fl, .int .i64 n, .int .i64 ma, .int .i64 mb, .int .i64 mc, .int .i64 md, .int .i64 g.bits, .int .i64 g.depth, .bool g.big, .bool g.tru, .int .i64 g.rm, .int .i64 g.gm, .int .i64 g.bm, .int .i64 g.rs, .int .i64 g.gs, .int .i64 g.bs, en, .string t]] w fun e w' => e = .returned (.tuple #[.string S4, .int .i64 E4]) ∧ Below w.heap.size w w'))
    (K56 : Hid (∀ w, Calls Try.prog 56 #[.agg #[.int .i64 kd, .bool fl, .int .i64 n, .int .i64 ma, .int .i64 mb, .int .i64 mc, .int .i64 md, .int .i64 g.bits, .int .i64 g.depth, .bool g.big, .bool g.tru, .int .i64 g.rm, .int .i64 g.gm, .int .i64 g.bm, .int .i64 g.rs, .int .i64 g.gs, .int .i64 g.bs, en, .string t]] w fun e w' => e = .returned (.tuple #[.string S4, .int .i64 E4]) ∧ Below w.heap.size w w'))
    (K57 : Hid (∀ w, Calls Try.prog 57 #[.string s] w fun e w' => e = .returned (.string S5) ∧ Below w.heap.size w w'))
    (K58 : Hid (∀ w, Calls Try.prog 58 #[.string s] w fun e w' => e = .returned (.string S5) ∧ Below w.heap.size w w')) :
    Calls Try.prog 10 #[.slice a0 n0 c0, .string s, .agg #[.int .i64 x, .int .i64 y, .int .i64 f.bits, .int .i64 f.depth, .bool f.big, .bool f.tru, .int .i64 f.rm, .int .i64 f.gm, .int .i64 f.bm, .int .i64 f.rs, .int .i64 f.gs, .int .i64 f.bs, .string nm], .agg #[.int .i64 hx, .int .i64 hy, .int .i64 hw, .int .i64 hh, .int .i64 he], .agg #[.int .i64 kd, .bool fl, .int .i64 n, .int .i64 ma, .int .i64 mb, .int .i64 mc, .int .i64 md, .int .i64 g.bits, .int .i64 g.depth, .bool g.big, .bool g.tru, .int .i64 g.rm, .int .i64 g.gm, .int .i64 g.bm, .int .i64 g.rs, .int .i64 g.gs, .int .i64 g.bs, en, .string t]] w fun e w' => e = .returned (.bool true) ∧ Below w.heap.size w w' := by
  have F0 := hide (Blk.new w 58 #[.int .i64 x, .int .i64 y, .int .i64 f.bits, .int .i64 f.depth, .bool f.big, .bool f.tru, .int .i64 f.rm, .int .i64 f.gm, .int .i64 f.bm, .int .i64 f.rs, .int .i64 f.gs, .int .i64 f.bs, .string nm])
  have B0 := hide ((Below.refl w.heap.size w).alloc (Nat.le_refl _) (.cells #[.int .i64 x, .int .i64 y, .int .i64 f.bits, .int .i64 f.depth, .bool f.big, .bool f.tru, .int .i64 f.rm, .int .i64 f.gm, .int .i64 f.bm, .int .i64 f.rs, .int .i64 f.gs, .int .i64 f.bs, .string nm] 58))
  have G0 := hide (Blk.new (w.alloc (.cells #[.int .i64 x, .int .i64 y, .int .i64 f.bits, .int .i64 f.depth, .bool f.big, .bool f.tru, .int .i64 f.rm, .int .i64 f.gm, .int .i64 f.bm, .int .i64 f.rs, .int .i64 f.gs, .int .i64 f.bs, .string nm] 58)) 62 #[.int .i64 hx, .int .i64 hy, .int .i64 hw, .int .i64 hh, .int .i64 he])
  have F1 := hide (F0.out.alloc (.cells #[.int .i64 hx, .int .i64 hy, .int .i64 hw, .int .i64 hh, .int .i64 he] 62))
  have B1 := hide (B0.out.alloc B0.out.size (.cells #[.int .i64 hx, .int .i64 hy, .int .i64 hw, .int .i64 hh, .int .i64 he] 62))
  have H0 := hide (Blk.new ((w.alloc (.cells #[.int .i64 x, .int .i64 y, .int .i64 f.bits, .int .i64 f.depth, .bool f.big, .bool f.tru, .int .i64 f.rm, .int .i64 f.gm, .int .i64 f.bm, .int .i64 f.rs, .int .i64 f.gs, .int .i64 f.bs, .string nm] 58)).alloc (.cells #[.int .i64 hx, .int .i64 hy, .int .i64 hw, .int .i64 hh, .int .i64 he] 62)) 65 #[.int .i64 kd, .bool fl, .int .i64 n, .int .i64 ma, .int .i64 mb, .int .i64 mc, .int .i64 md, .int .i64 g.bits, .int .i64 g.depth, .bool g.big, .bool g.tru, .int .i64 g.rm, .int .i64 g.gm, .int .i64 g.bm, .int .i64 g.rs, .int .i64 g.gs, .int .i64 g.bs, en, .string t])
  have F2 := hide (F1.out.alloc (.cells #[.int .i64 kd, .bool fl, .int .i64 n, .int .i64 ma, .int .i64 mb, .int .i64 mc, .int .i64 md, .int .i64 g.bits, .int .i64 g.depth, .bool g.big, .bool g.tru, .int .i64 g.rm, .int .i64 g.gm, .int .i64 g.bm, .int .i64 g.rs, .int .i64 g.gs, .int .i64 g.bs, en, .string t] 65))
  have G2 := hide (G0.out.alloc (.cells #[.int .i64 kd, .bool fl, .int .i64 n, .int .i64 ma, .int .i64 mb, .int .i64 mc, .int .i64 md, .int .i64 g.bits, .int .i64 g.depth, .bool g.big, .bool g.tru, .int .i64 g.rm, .int .i64 g.gm, .int .i64 g.bm, .int .i64 g.rs, .int .i64 g.gs, .int .i64 g.bs, en, .string t] 65))
  have B2 := hide (B1.out.alloc B1.out.size (.cells #[.int .i64 kd, .bool fl, .int .i64 n, .int .i64 ma, .int .i64 mb, .int .i64 mc, .int .i64 md, .int .i64 g.bits, .int .i64 g.depth, .bool g.big, .bool g.tru, .int .i64 g.rm, .int .i64 g.gm, .int .i64 g.bm, .int .i64 g.rs, .int .i64 g.gs, .int .i64 g.bs, en, .string t] 65))
  have G3 : Hid (Blk (w.heap.size + 1) 62 #[.int .i64 hx, .int .i64 hy, .int .i64 hw, .int .i64 hh, .int .i64 he] (((w.alloc (.cells #[.int .i64 x, .int .i64 y, .int .i64 f.bits, .int .i64 f.depth, .bool f.big, .bool f.tru, .int .i64 f.rm, .int .i64 f.gm, .int .i64 f.bm, .int .i64 f.rs, .int .i64 f.gs, .int .i64 f.bs, .string nm] 58)).alloc (.cells #[.int .i64 hx, .int .i64 hy, .int .i64 hw, .int .i64 hh, .int .i64 he] 62)).alloc (.cells #[.int .i64 kd, .bool fl, .int .i64 n, .int .i64 ma, .int .i64 mb, .int .i64 mc, .int .i64 md, .int .i64 g.bits, .int .i64 g.depth, .bool g.big, .bool g.tru, .int .i64 g.rm, .int .i64 g.gm, .int .i64 g.bm, .int .i64 g.rs, .int .i64 g.gs, .int .i64 g.bs, en, .string t] 65))) := hide (by
    have h := G2.out
    rw [World.size_alloc] at h
    exact h)
  have H3 : Hid (Blk (w.heap.size + 1 + 1) 65 #[.int .i64 kd, .bool fl, .int .i64 n, .int .i64 ma, .int .i64 mb, .int .i64 mc, .int .i64 md, .int .i64 g.bits, .int .i64 g.depth, .bool g.big, .bool g.tru, .int .i64 g.rm, .int .i64 g.gm, .int .i64 g.bm, .int .i64 g.rs, .int .i64 g.gs, .int .i64 g.bs, en, .string t] (((w.alloc (.cells #[.int .i64 x, .int .i64 y, .int .i64 f.bits, .int .i64 f.depth, .bool f.big, .bool f.tru, .int .i64 f.rm, .int .i64 f.gm, .int .i64 f.bm, .int .i64 f.rs, .int .i64 f.gs, .int .i64 f.bs, .string nm] 58)).alloc (.cells #[.int .i64 hx, .int .i64 hy, .int .i64 hw, .int .i64 hh, .int .i64 he] 62)).alloc (.cells #[.int .i64 kd, .bool fl, .int .i64 n, .int .i64 ma, .int .i64 mb, .int .i64 mc, .int .i64 md, .int .i64 g.bits, .int .i64 g.depth, .bool g.big, .bool g.tru, .int .i64 g.rm, .int .i64 g.gm, .int .i64 g.bm, .int .i64 g.rs, .int .i64 g.gs, .int .i64 g.bs, en, .string t] 65))) := hide (by
    have h := H0.out
    rw [World.size_alloc, World.size_alloc] at h
    exact h)
  have l0 : (n0 : Int) ≤ 300 := by omega
  have l1 : (s.size : Int) ≤ 5000 := by omega
  have l2 : (nm.size : Int) ≤ 5000 := by omega
  have l3 : (t.size : Int) ≤ 5000 := by omega
  clear F0 F1 G0 G2 H0 B0 B1
  go_enter Try.func10, Try.ntmps10
  go_upto_region 1 with fail
  generalize (((w.alloc (.cells #[.int .i64 x, .int .i64 y, .int .i64 f.bits, .int .i64 f.depth, .bool f.big, .bool f.tru, .int .i64 f.rm, .int .i64 f.gm, .int .i64 f.bm, .int .i64 f.rs, .int .i64 f.gs, .int .i64 f.bs, .string nm] 58)).alloc (.cells #[.int .i64 hx, .int .i64 hy, .int .i64 hw, .int .i64 hh, .int .i64 he] 62)).alloc (.cells #[.int .i64 kd, .bool fl, .int .i64 n, .int .i64 ma, .int .i64 mb, .int .i64 mc, .int .i64 md, .int .i64 g.bits, .int .i64 g.depth, .bool g.big, .bool g.tru, .int .i64 g.rm, .int .i64 g.gm, .int .i64 g.bm, .int .i64 g.rs, .int .i64 g.gs, .int .i64 g.bs, en, .string t] 65)) = w0 at *
  go_wp2_with fail
  refine (works48_any _).mono ?_
  rintro e w1 ⟨rfl, hb⟩
  have F_1 := hide (F2.out.below hb)
  have G_1 := hide (G3.out.below hb)
  have H_1 := hide (H3.out.below hb)
  have B_1 := hide (B2.out.trans (hb.mono B2.out.size))
  clear hb
  have f58x12 : w1.cell? ⟨w.heap.size, 12, none⟩ = some (.string nm) := F_1.out.cell 12
  have f65x18 : w1.cell? ⟨w.heap.size + 1 + 1, 18, none⟩ = some (.string t) := H_1.out.cell 18
  go_wp2_with fail
  refine (K49.out _ B_1.out).mono ?_
  rintro e w2 ⟨rfl, hb⟩
  have F_2 := hide (F_1.out.below hb)
  have G_2 := hide (G_1.out.below hb)
  have H_2 := hide (H_1.out.below hb)
  have B_2 := hide (B_1.out.trans (hb.mono B_1.out.size))
  clear hb
  clear f58x12 f65x18
  go_wp2_with fail
  refine (K50.out _ B_2.out).mono ?_
  rintro e w3 ⟨rfl, hb⟩
  have F_3 := hide (F_2.out.below hb)
  have G_3 := hide (G_2.out.below hb)
  have H_3 := hide (H_2.out.below hb)
  have B_3 := hide (B_2.out.trans (hb.mono B_2.out.size))
  clear hb
  go_upto_region 8 with fail
  go_step
  refine wpList_load_row rfl 58 (.tmp 7) rfl w.heap.size rfl 58 _ _ _ F_3.out Try.underlying58 rfl (by kernel_rfl) ?_
  go_wp2_with fail
  refine (K51.out _).mono ?_
  rintro e w4 ⟨rfl, hb⟩
  have F_4 := hide (F_3.out.below hb)
  have G_4 := hide (G_3.out.below hb)
  have H_4 := hide (H_3.out.below hb)
  have B_4 := hide (B_3.out.trans (hb.mono B_3.out.size))
  clear hb
  have f58x0 : w4.cell? ⟨w.heap.size, 0, none⟩ = some (.int .i64 x) := F_4.out.cell 0
  have f58x1 : w4.cell? ⟨w.heap.size, 1, none⟩ = some (.int .i64 y) := F_4.out.cell 1
  have f58x2 : w4.cell? ⟨w.heap.size, 2, none⟩ = some (.int .i64 f.bits) := F_4.out.cell 2
  have f58x3 : w4.cell? ⟨w.heap.size, 3, none⟩ = some (.int .i64 f.depth) := F_4.out.cell 3
  have f58x4 : w4.cell? ⟨w.heap.size, 4, none⟩ = some (.bool f.big) := F_4.out.cell 4
  have f58x5 : w4.cell? ⟨w.heap.size, 5, none⟩ = some (.bool f.tru) := F_4.out.cell 5
  have f58x6 : w4.cell? ⟨w.heap.size, 6, none⟩ = some (.int .i64 f.rm) := F_4.out.cell 6
  have f58x7 : w4.cell? ⟨w.heap.size, 7, none⟩ = some (.int .i64 f.gm) := F_4.out.cell 7
  have f58x8 : w4.cell? ⟨w.heap.size, 8, none⟩ = some (.int .i64 f.bm) := F_4.out.cell 8
  have f58x9 : w4.cell? ⟨w.heap.size, 9, none⟩ = some (.int .i64 f.rs) := F_4.out.cell 9
  have f58x10 : w4.cell? ⟨w.heap.size, 10, none⟩ = some (.int .i64 f.gs) := F_4.out.cell 10
  have f58x11 : w4.cell? ⟨w.heap.size, 11, none⟩ = some (.int .i64 f.bs) := F_4.out.cell 11
  have f58x12 : w4.cell? ⟨w.heap.size, 12, none⟩ = some (.string nm) := F_4.out.cell 12
  go_wp2_with fail
  refine (K52.out _).mono ?_
  rintro e w5 ⟨rfl, hb⟩
  have F_5 := hide (F_4.out.below hb)
  have G_5 := hide (G_4.out.below hb)
  have H_5 := hide (H_4.out.below hb)
  have B_5 := hide (B_4.out.trans (hb.mono B_4.out.size))
  clear hb
  clear f58x0 f58x1 f58x2 f58x3 f58x4 f58x5 f58x6 f58x7 f58x8 f58x9 f58x10 f58x11 f58x12
  have f62x0 : w5.cell? ⟨w.heap.size + 1, 0, none⟩ = some (.int .i64 hx) := G_5.out.cell 0
  have f62x1 : w5.cell? ⟨w.heap.size + 1, 1, none⟩ = some (.int .i64 hy) := G_5.out.cell 1
  have f62x2 : w5.cell? ⟨w.heap.size + 1, 2, none⟩ = some (.int .i64 hw) := G_5.out.cell 2
  have f62x3 : w5.cell? ⟨w.heap.size + 1, 3, none⟩ = some (.int .i64 hh) := G_5.out.cell 3
  have f62x4 : w5.cell? ⟨w.heap.size + 1, 4, none⟩ = some (.int .i64 he) := G_5.out.cell 4
  go_wp2_with fail
  refine (K53.out _).mono ?_
  rintro e w6 ⟨rfl, hb⟩
  have F_6 := hide (F_5.out.below hb)
  have G_6 := hide (G_5.out.below hb)
  have H_6 := hide (H_5.out.below hb)
  have B_6 := hide (B_5.out.trans (hb.mono B_5.out.size))
  clear hb
  clear f62x0 f62x1 f62x2 f62x3 f62x4
  have f62x0 : w6.cell? ⟨w.heap.size + 1, 0, none⟩ = some (.int .i64 hx) := G_6.out.cell 0
  have f62x1 : w6.cell? ⟨w.heap.size + 1, 1, none⟩ = some (.int .i64 hy) := G_6.out.cell 1
  have f62x2 : w6.cell? ⟨w.heap.size + 1, 2, none⟩ = some (.int .i64 hw) := G_6.out.cell 2
  have f62x3 : w6.cell? ⟨w.heap.size + 1, 3, none⟩ = some (.int .i64 hh) := G_6.out.cell 3
  have f62x4 : w6.cell? ⟨w.heap.size + 1, 4, none⟩ = some (.int .i64 he) := G_6.out.cell 4
  go_wp2_with fail
  refine (K54.out _).mono ?_
  rintro e w7 ⟨rfl, hb⟩
  have F_7 := hide (F_6.out.below hb)
  have G_7 := hide (G_6.out.below hb)
  have H_7 := hide (H_6.out.below hb)
  have B_7 := hide (B_6.out.trans (hb.mono B_6.out.size))
  clear hb
  clear f62x0 f62x1 f62x2 f62x3 f62x4
  go_upto_region 12 with fail
  go_step
  refine wpList_load_row rfl 65 (.tmp 9) rfl (w.heap.size + 1 + 1) rfl 65 _ _ _ H_7.out Try.underlying65 rfl (by kernel_rfl) ?_
  go_wp2_with fail
  refine (K55.out _).mono ?_
  rintro e w8 ⟨rfl, hb⟩
  have F_8 := hide (F_7.out.below hb)
  have G_8 := hide (G_7.out.below hb)
  have H_8 := hide (H_7.out.below hb)
  have B_8 := hide (B_7.out.trans (hb.mono B_7.out.size))
  clear hb
  go_upto_region 13 with fail
  go_step
  refine wpList_load_row rfl 65 (.tmp 9) rfl (w.heap.size + 1 + 1) rfl 65 _ _ _ H_8.out Try.underlying65 rfl (by kernel_rfl) ?_
  go_wp2_with fail
  refine (K56.out _).mono ?_
  rintro e w9 ⟨rfl, hb⟩
  have F_9 := hide (F_8.out.below hb)
  have G_9 := hide (G_8.out.below hb)
  have H_9 := hide (H_8.out.below hb)
  have B_9 := hide (B_8.out.trans (hb.mono B_8.out.size))
  clear hb
  go_wp2_with fail
  refine (K57.out _).mono ?_
  rintro e w10 ⟨rfl, hb⟩
  have F_10 := hide (F_9.out.below hb)
  have G_10 := hide (G_9.out.below hb)
  have H_10 := hide (H_9.out.below hb)
  have B_10 := hide (B_9.out.trans (hb.mono B_9.out.size))
  clear hb
  go_wp2_with fail
  refine (K58.out _).mono ?_
  rintro e w11 ⟨rfl, hb⟩
  have F_11 := hide (F_10.out.below hb)
  have G_11 := hide (G_10.out.below hb)
  have H_11 := hide (H_10.out.below hb)
  have B_11 := hide (B_10.out.trans (hb.mono B_10.out.size))
  clear hb
  go_wp2_with fail
  go_ret
  exact ⟨rfl, B_11.out⟩

end Go.Proofs.Ytodlpofpeoiedaa
