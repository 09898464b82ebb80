/-
  miradorlaw23.ServermsgWrites: where the input is too long; the law.
-/
import Derived.Test.YtodlpofpeoiedaaDT
namespace Go.Proofs.Ytodlpofpeoiedaa
open Go.RowKit Go.Sort

set_option maxHeartbeats 3200000 in
set_option maxRecDepth 100000 in
theorem law10_n (a0 : Option Addr) (n0 c0 : Nat) (s : ByteArray) (x y : Int) (f : Fmt) (nm : ByteArray) (hx hy hw hh he : Int) (kd : Int) (fl : Bool) (n ma mb mc md : Int) (g : Fmt) (en : Value) (t : ByteArray) (w : World) (q0 : 300 < n0) :
    Calls Try.prog 10 #[.slice a0 n0 c0, .string s, .agg #[.int .i64 x, .int .i64 y, .int .i64 f.bits, .int .i64 f.depth, .bool f.big, .bool f.tru, .int .i64 f.rm, .int .i64 f.gm, .int .i64 f.bm, .int .i64 f.rs, .int .i64 f.gs, .int .i64 f.bs, .string nm], .agg #[.int .i64 hx, .int .i64 hy, .int .i64 hw, .int .i64 hh, .int .i64 he], .agg #[.int .i64 kd, .bool fl, .int .i64 n, .int .i64 ma, .int .i64 mb, .int .i64 mc, .int .i64 md, .int .i64 g.bits, .int .i64 g.depth, .bool g.big, .bool g.tru, .int .i64 g.rm, .int .i64 g.gm, .int .i64 g.bm, .int .i64 g.rs, .int .i64 g.gs, .int .i64 g.bs, en, .string t]] w fun e w' => e = .returned (.bool true) ∧ Below w.heap.size w w' := by
  have F0 := hide (Blk.new w 58 #[.int .i64 x, .int .i64 y, .int .i64 f.bits, .int .i64 f.depth, .bool f.big, .bool f.tru, .int .i64 f.rm, .int .i64 f.gm, .int .i64 f.bm, .int .i64 f.rs, .int .i64 f.gs, .int .i64 f.bs, .string nm])
  have B0 := hide ((Below.refl w.heap.size w).alloc (Nat.le_refl _) (.cells #[.int .i64 x, .int .i64 y, .int .i64 f.bits, .int .i64 f.depth, .bool f.big, .bool f.tru, .int .i64 f.rm, .int .i64 f.gm, .int .i64 f.bm, .int .i64 f.rs, .int .i64 f.gs, .int .i64 f.bs, .string nm] 58))
  have G0 := hide (Blk.new (w.alloc (.cells #[.int .i64 x, .int .i64 y, .int .i64 f.bits, .int .i64 f.depth, .bool f.big, .bool f.tru, .int .i64 f.rm, .int .i64 f.gm, .int .i64 f.bm, .int .i64 f.rs, .int .i64 f.gs, .int .i64 f.bs, .string nm] 58)) 62 #[.int .i64 hx, .int .i64 hy, .int .i64 hw, .int .i64 hh, .int .i64 he])
  have F1 := hide (F0.out.alloc (.cells #[.int .i64 hx, .int .i64 hy, .int .i64 hw, .int .i64 hh, .int .i64 he] 62))
  have B1 := hide (B0.out.alloc B0.out.size (.cells #[.int .i64 hx, .int .i64 hy, .int .i64 hw, .int .i64 hh, .int .i64 he] 62))
  have H0 := hide (Blk.new ((w.alloc (.cells #[.int .i64 x, .int .i64 y, .int .i64 f.bits, .int .i64 f.depth, .bool f.big, .bool f.tru, .int .i64 f.rm, .int .i64 f.gm, .int .i64 f.bm, .int .i64 f.rs, .int .i64 f.gs, .int .i64 f.bs, .string nm] 58)).alloc (.cells #[.int .i64 hx, .int .i64 hy, .int .i64 hw, .int .i64 hh, .int .i64 he] 62)) 65 #[.int .i64 kd, .bool fl, .int .i64 n, .int .i64 ma, .int .i64 mb, .int .i64 mc, .int .i64 md, .int .i64 g.bits, .int .i64 g.depth, .bool g.big, .bool g.tru, .int .i64 g.rm, .int .i64 g.gm, .int .i64 g.bm, .int .i64 g.rs, .int .i64 g.gs, .int .i64 g.bs, en, .string t])
  have F2 := hide (F1.out.alloc (.cells #[.int .i64 kd, .bool fl, .int .i64 n, .int .i64 ma, .int .i64 mb, .int .i64 mc, .int .i64 md, .int .i64 g.bits, .int .i64 g.depth, .bool g.big, .bool g.tru, .int .i64 g.rm, .int .i64 g.gm, .int .i64 g.bm, .int .i64 g.rs, .int .i64 g.gs, .int .i64 g.bs, en, .string t] 65))
  have G2 := hide (G0.out.alloc (.cells #[.int .i64 kd, .bool fl, .int .i64 n, .int .i64 ma, .int .i64 mb, .int .i64 mc, .int .i64 md, .int .i64 g.bits, .int .i64 g.depth, .bool g.big, .bool g.tru, .int .i64 g.rm, .int .i64 g.gm, .int .i64 g.bm, .int .i64 g.rs, .int .i64 g.gs, .int .i64 g.bs, en, .string t] 65))
  have B2 := hide (B1.out.alloc B1.out.size (.cells #[.int .i64 kd, .bool fl, .int .i64 n, .int .i64 ma, .int .i64 mb, .int .i64 mc, .int .i64 md, .int .i64 g.bits, .int .i64 g.depth, .bool g.big, .bool g.tru, .int .i64 g.rm, .int .i64 g.gm, .int .i64 g.bm, .int .i64 g.rs, .int .i64 g.gs, .int .i64 g.bs, en, .string t] 65))
  have G3 : Hid (Blk (w.heap.size + 1) 62 #[.int .i64 hx, .int .i64 hy, .int .i64 hw, .int .i64 hh, .int .i64 he] (((w.alloc (.cells #[.int .i64 x, .int .i64 y, .int .i64 f.bits, .int .i64 f.depth, .bool f.big, .bool f.tru, .int .i64 f.rm, .int .i64 f.gm, .int .i64 f.bm, .int .i64 f.rs, .int .i64 f.gs, .int .i64 f.bs, .string nm] 58)).alloc (.cells #[.int .i64 hx, .int .i64 hy, .int .i64 hw, .int .i64 hh, .int .i64 he] 62)).alloc (.cells #[.int .i64 kd, .bool fl, .int .i64 n, .int .i64 ma, .int .i64 mb, .int .i64 mc, .int .i64 md, .int .i64 g.bits, .int .i64 g.depth, .bool g.big, .bool g.tru, .int .i64 g.rm, .int .i64 g.gm, .int .i64 g.bm, .int .i64 g.rs, .int .i64 g.gs, .int .i64 g.bs, en, .string t] 65))) := hide (by
    have h := G2.out
    rw [World.size_alloc] at h
    exact h)
  have H3 : Hid (Blk (w.heap.size + 1 + 1) 65 #[.int .i64 kd, .bool fl, .int .i64 n, .int .i64 ma, .int .i64 mb, .int .i64 mc, .int .i64 md, .int .i64 g.bits, .int .i64 g.depth, .bool g.big, .bool g.tru, .int .i64 g.rm, .int .i64 g.gm, .int .i64 g.bm, .int .i64 g.rs, .int .i64 g.gs, .int .i64 g.bs, en, .string t] (((w.alloc (.cells #[.int .i64 x, .int .i64 y, .int .i64 f.bits, .int .i64 f.depth, .bool f.big, .bool f.tru, .int .i64 f.rm, .int .i64 f.gm, .int .i64 f.bm, .int .i64 f.rs, .int .i64 f.gs, .int .i64 f.bs, .string nm] 58)).alloc (.cells #[.int .i64 hx, .int .i64 hy, .int .i64 hw, .int .i64 hh, .int .i64 he] 62)).alloc (.cells #[.int .i64 kd, .bool fl, .int .i64 n, .int .i64 ma, .int .i64 mb, .int .i64 mc, .int .i64 md, .int .i64 g.bits, .int .i64 g.depth, .bool g.big, .bool g.tru, .int .i64 g.rm, .int .i64 g.gm, .int .i64 g.bm, .int .i64 g.rs, .int .i64 g.gs, .int .i64 g.bs, en, .string t] 65))) := hide (by
    have h := H0.out
    rw [World.size_alloc, World.size_alloc] at h
    exact h)
  have l0 : (300 : Int) < n0 := by omega
  clear F0 F1 G0 G2 H0 B0 B1
  go_enter Try.func10, Try.ntmps10
  go_upto_region 1 with fail
  generalize (((w.alloc (.cells #[.int .i64 x, .int .i64 y, .int .i64 f.bits, .int .i64 f.depth, .bool f.big, .bool f.tru, .int .i64 f.rm, .int .i64 f.gm, .int .i64 f.bm, .int .i64 f.rs, .int .i64 f.gs, .int .i64 f.bs, .string nm] 58)).alloc (.cells #[.int .i64 hx, .int .i64 hy, .int .i64 hw, .int .i64 hh, .int .i64 he] 62)).alloc (.cells #[.int .i64 kd, .bool fl, .int .i64 n, .int .i64 ma, .int .i64 mb, .int .i64 mc, .int .i64 md, .int .i64 g.bits, .int .i64 g.depth, .bool g.big, .bool g.tru, .int .i64 g.rm, .int .i64 g.gm, .int .i64 g.bm, .int .i64 g.rs, .int .i64 g.gs, .int .i64 g.bs, en, .string t] 65)) = w0 at *
  go_wp2_with fail
  refine (works48_any _).mono ?_
  rintro e w1 ⟨rfl, hb⟩
  have F_1 := hide (F2.out.below hb)
  have G_1 := hide (G3.out.below hb)
  have H_1 := hide (H3.out.below hb)
  have B_1 := hide (B2.out.trans (hb.mono B2.out.size))
  clear hb
  have f58x12 : w1.cell? ⟨w.heap.size, 12, none⟩ = some (.string nm) := F_1.out.cell 12
  have f65x18 : w1.cell? ⟨w.heap.size + 1 + 1, 18, none⟩ = some (.string t) := H_1.out.cell 18
  go_wp2_with fail
  go_ret
  exact ⟨rfl, B_1.out⟩

set_option maxHeartbeats 3200000 in
set_option maxRecDepth 100000 in
theorem law10_s (a0 : Option Addr) (n0 c0 : Nat) (s : ByteArray) (x y : Int) (f : Fmt) (nm : ByteArray) (hx hy hw hh he : Int) (kd : Int) (fl : Bool) (n ma mb mc md : Int) (g : Fmt) (en : Value) (t : ByteArray) (w : World) (q0 : n0 ≤ 300) (q1 : 5000 < s.size) :
    Calls Try.prog 10 #[.slice a0 n0 c0, .string s, .agg #[.int .i64 x, .int .i64 y, .int .i64 f.bits, .int .i64 f.depth, .bool f.big, .bool f.tru, .int .i64 f.rm, .int .i64 f.gm, .int .i64 f.bm, .int .i64 f.rs, .int .i64 f.gs, .int .i64 f.bs, .string nm], .agg #[.int .i64 hx, .int .i64 hy, .int .i64 hw, .int .i64 hh, .int .i64 he], .agg #[.int .i64 kd, .bool fl, .int .i64 n, .int .i64 ma, .int .i64 mb, .int .i64 mc, .int .i64 md, .int .i64 g.bits, .int .i64 g.depth, .bool g.big, .bool g.tru, .int .i64 g.rm, .int .i64 g.gm, .int .i64 g.bm, .int .i64 g.rs, .int .i64 g.gs, .int .i64 g.bs, en, .string t]] w fun e w' => e = .returned (.bool true) ∧ Below w.heap.size w w' := by
  have F0 := hide (Blk.new w 58 #[.int .i64 x, .int .i64 y, .int .i64 f.bits, .int .i64 f.depth, .bool f.big, .bool f.tru, .int .i64 f.rm, .int .i64 f.gm, .int .i64 f.bm, .int .i64 f.rs, .int .i64 f.gs, .int .i64 f.bs, .string nm])
  have B0 := hide ((Below.refl w.heap.size w).alloc (Nat.le_refl _) (.cells #[.int .i64 x, .int .i64 y, .int .i64 f.bits, .int .i64 f.depth, .bool f.big, .bool f.tru, .int .i64 f.rm, .int .i64 f.gm, .int .i64 f.bm, .int .i64 f.rs, .int .i64 f.gs, .int .i64 f.bs, .string nm] 58))
  have G0 := hide (Blk.new (w.alloc (.cells #[.int .i64 x, .int .i64 y, .int .i64 f.bits, .int .i64 f.depth, .bool f.big, .bool f.tru, .int .i64 f.rm, .int .i64 f.gm, .int .i64 f.bm, .int .i64 f.rs, .int .i64 f.gs, .int .i64 f.bs, .string nm] 58)) 62 #[.int .i64 hx, .int .i64 hy, .int .i64 hw, .int .i64 hh, .int .i64 he])
  have F1 := hide (F0.out.alloc (.cells #[.int .i64 hx, .int .i64 hy, .int .i64 hw, .int .i64 hh, .int .i64 he] 62))
  have B1 := hide (B0.out.alloc B0.out.size (.cells #[.int .i64 hx, .int .i64 hy, .int .i64 hw, .int .i64 hh, .int .i64 he] 62))
  have H0 := hide (Blk.new ((w.alloc (.cells #[.int .i64 x, .int .i64 y, .int .i64 f.bits, .int .i64 f.depth, .bool f.big, .bool f.tru, .int .i64 f.rm, .int .i64 f.gm, .int .i64 f.bm, .int .i64 f.rs, .int .i64 f.gs, .int .i64 f.bs, .string nm] 58)).alloc (.cells #[.int .i64 hx, .int .i64 hy, .int .i64 hw, .int .i64 hh, .int .i64 he] 62)) 65 #[.int .i64 kd, .bool fl, .int .i64 n, .int .i64 ma, .int .i64 mb, .int .i64 mc, .int .i64 md, .int .i64 g.bits, .int .i64 g.depth, .bool g.big, .bool g.tru, .int .i64 g.rm, .int .i64 g.gm, .int .i64 g.bm, .int .i64 g.rs, .int .i64 g.gs, .int .i64 g.bs, en, .string t])
  have F2 := hide (F1.out.alloc (.cells #[.int .i64 kd, .bool fl, .int .i64 n, .int .i64 ma, .int .i64 mb, .int .i64 mc, .int .i64 md, .int .i64 g.bits, .int .i64 g.depth, .bool g.big, .bool g.tru, .int .i64 g.rm, .int .i64 g.gm, .int .i64 g.bm, .int .i64 g.rs, .int .i64 g.gs, .int .i64 g.bs, en, .string t] 65))
  have G2 := hide (G0.out.alloc (.cells #[.int .i64 kd, .bool fl, .int .i64 n, .int .i64 ma, .int .i64 mb, .int .i64 mc, .int .i64 md, .int .i64 g.bits, .int .i64 g.depth, .bool g.big, .bool g.tru, .int .i64 g.rm, .int .i64 g.gm, .int .i64 g.bm, .int .i64 g.rs, .int .i64 g.gs, .int .i64 g.bs, en, .string t] 65))
  have B2 := hide (B1.out.alloc B1.out.size (.cells #[.int .i64 kd, .bool fl, .int .i64 n, .int .i64 ma, .int .i64 mb, .int .i64 mc, .int .i64 md, .int .i64 g.bits, .int .i64 g.depth, .bool g.big, .bool g.tru, .int .i64 g.rm, .int .i64 g.gm, .int .i64 g.bm, .int .i64 g.rs, .int .i64 g.gs, .int .i64 g.bs, en, .string t] 65))
  have G3 : Hid (Blk (w.heap.size + 1) 62 #[.int .i64 hx, .int .i64 hy, .int .i64 hw, .int .i64 hh, .int .i64 he] (((w.alloc (.cells #[.int .i64 x, .int .i64 y, .int .i64 f.bits, .int .i64 f.depth, .bool f.big, .bool f.tru, .int .i64 f.rm, .int .i64 f.gm, .int .i64 f.bm, .int .i64 f.rs, .int .i64 f.gs, .int .i64 f.bs, .string nm] 58)).alloc (.cells #[.int .i64 hx, .int .i64 hy, .int .i64 hw, .int .i64 hh, .int .i64 he] 62)).alloc (.cells #[.int .i64 kd, .bool fl, .int .i64 n, .int .i64 ma, .int .i64 mb, .int .i64 mc, .int .i64 md, .int .i64 g.bits, .int .i64 g.depth, .bool g.big, .bool g.tru, .int .i64 g.rm, .int .i64 g.gm, .int .i64 g.bm, .int .i64 g.rs, .int .i64 g.gs, .int .i64 g.bs, en, .string t] 65))) := hide (by
    have h := G2.out
    rw [World.size_alloc] at h
    exact h)
  have H3 : Hid (Blk (w.heap.size + 1 + 1) 65 #[.int .i64 kd, .bool fl, .int .i64 n, .int .i64 ma, .int .i64 mb, .int .i64 mc, .int .i64 md, .int .i64 g.bits, .int .i64 g.depth, .bool g.big, .bool g.tru, .int .i64 g.rm, .int .i64 g.gm, .int .i64 g.bm, .int .i64 g.rs, .int .i64 g.gs, .int .i64 g.bs, en, .string t] (((w.alloc (.cells #[.int .i64 x, .int .i64 y, .int .i64 f.bits, .int .i64 f.depth, .bool f.big, .bool f.tru, .int .i64 f.rm, .int .i64 f.gm, .int .i64 f.bm, .int .i64 f.rs, .int .i64 f.gs, .int .i64 f.bs, .string nm] 58)).alloc (.cells #[.int .i64 hx, .int .i64 hy, .int .i64 hw, .int .i64 hh, .int .i64 he] 62)).alloc (.cells #[.int .i64 kd, .bool fl, .int .i64 n, .int .i64 ma, .int .i64 mb, .int .i64 mc, .int .i64 md, .int .i64 g.bits, .int .i64 g.depth, .bool g.big, .bool g.tru, .int .i64 g.rm, .int .i64 g.gm, .int .i64 g.bm, .int .i64 g.rs, .int .i64 g.gs, .int .i64 g.bs, en, .string t] 65))) := hide (by
    have h := H0.out
    rw [World.size_alloc, World.size_alloc] at h
    exact h)
  have l0 : (n0 : Int) ≤ 300 := by omega
  have l1 : (5000 : Int) < s.size := by omega
  clear F0 F1 G0 G2 H0 B0 B1
  go_enter Try.func10, Try.ntmps10
  go_upto_region 1 with fail
  generalize (((w.alloc (.cells #[.int .i64 x, .int .i64 y, .int .i64 f.bits, .int .i64 f.depth, .bool f.big, .bool f.tru, .int .i64 f.rm, .int .i64 f.gm, .int .i64 f.bm, .int .i64 f.rs, .int .i64 f.gs, .int .i64 f.bs, .string nm] 58)).alloc (.cells #[.int .i64 hx, .int .i64 hy, .int .i64 hw, .int .i64 hh, .int .i64 he] 62)).alloc (.cells #[.int .i64 kd, .bool fl, .int .i64 n, .int .i64 ma, .int .i64 mb, .int .i64 mc, .int .i64 md, .int .i64 g.bits, .int .i64 g.depth, .bool g.big, .bool g.tru, .int .i64 g.rm, .int .i64 g.gm, .int .i64 g.bm, .int .i64 g.rs, .int .i64 g.gs, .int .i64 g.bs, en, .string t] 65)) = w0 at *
  go_wp2_with fail
  refine (works48_any _).mono ?_
  rintro e w1 ⟨rfl, hb⟩
  have F_1 := hide (F2.out.below hb)
  have G_1 := hide (G3.out.below hb)
  have H_1 := hide (H3.out.below hb)
  have B_1 := hide (B2.out.trans (hb.mono B2.out.size))
  clear hb
  have f58x12 : w1.cell? ⟨w.heap.size, 12, none⟩ = some (.string nm) := F_1.out.cell 12
  have f65x18 : w1.cell? ⟨w.heap.size + 1 + 1, 18, none⟩ = some (.string t) := H_1.out.cell 18
  go_wp2_with fail
  go_ret
  exact ⟨rfl, B_1.out⟩

set_option maxHeartbeats 3200000 in
set_option maxRecDepth 100000 in
theorem law10_m (a0 : Option Addr) (n0 c0 : Nat) (s : ByteArray) (x y : Int) (f : Fmt) (nm : ByteArray) (hx hy hw hh he : Int) (kd : Int) (fl : Bool) (n ma mb mc md : Int) (g : Fmt) (en : Value) (t : ByteArray) (w : World) (q0 : n0 ≤ 300) (q1 : s.size ≤ 5000) (q2 : 5000 < nm.size) :
    Calls Try.prog 10 #[.slice a0 n0 c0, .string s, .agg #[.int .i64 x, .int .i64 y, .int .i64 f.bits, .int .i64 f.depth, .bool f.big, .bool f.tru, .int .i64 f.rm, .int .i64 f.gm, .int .i64 f.bm, .int .i64 f.rs, .int .i64 f.gs, .int .i64 f.bs, .string nm], .agg #[.int .i64 hx, .int .i64 hy, .int .i64 hw, .int .i64 hh, .int .i64 he], .agg #[.int .i64 kd, .bool fl, .int .i64 n, .int .i64 ma, .int .i64 mb, .int .i64 mc, .int .i64 md, .int .i64 g.bits, .int .i64 g.depth, .bool g.big, .bool g.tru, .int .i64 g.rm, .int .i64 g.gm, .int .i64 g.bm, .int .i64 g.rs, .int .i64 g.gs, .int .i64 g.bs, en, .string t]] w fun e w' => e = .returned (.bool true) ∧ Below w.heap.size w w' := by
  have F0 := hide (Blk.new w 58 #[.int .i64 x, .int .i64 y, .int .i64 f.bits, .int .i64 f.depth, .bool f.big, .bool f.tru, .int .i64 f.rm, .int .i64 f.gm, .int .i64 f.bm, .int .i64 f.rs, .int .i64 f.gs, .int .i64 f.bs, .string nm])
  have B0 := hide ((Below.refl w.heap.size w).alloc (Nat.le_refl _) (.cells #[.int .i64 x, .int .i64 y, .int .i64 f.bits, .int .i64 f.depth, .bool f.big, .bool f.tru, .int .i64 f.rm, .int .i64 f.gm, .int .i64 f.bm, .int .i64 f.rs, .int .i64 f.gs, .int .i64 f.bs, .string nm] 58))
  have G0 := hide (Blk.new (w.alloc (.cells #[.int .i64 x, .int .i64 y, .int .i64 f.bits, .int .i64 f.depth, .bool f.big, .bool f.tru, .int .i64 f.rm, .int .i64 f.gm, .int .i64 f.bm, .int .i64 f.rs, .int .i64 f.gs, .int .i64 f.bs, .string nm] 58)) 62 #[.int .i64 hx, .int .i64 hy, .int .i64 hw, .int .i64 hh, .int .i64 he])
  have F1 := hide (F0.out.alloc (.cells #[.int .i64 hx, .int .i64 hy, .int .i64 hw, .int .i64 hh, .int .i64 he] 62))
  have B1 := hide (B0.out.alloc B0.out.size (.cells #[.int .i64 hx, .int .i64 hy, .int .i64 hw, .int .i64 hh, .int .i64 he] 62))
  have H0 := hide (Blk.new ((w.alloc (.cells #[.int .i64 x, .int .i64 y, .int .i64 f.bits, .int .i64 f.depth, .bool f.big, .bool f.tru, .int .i64 f.rm, .int .i64 f.gm, .int .i64 f.bm, .int .i64 f.rs, .int .i64 f.gs, .int .i64 f.bs, .string nm] 58)).alloc (.cells #[.int .i64 hx, .int .i64 hy, .int .i64 hw, .int .i64 hh, .int .i64 he] 62)) 65 #[.int .i64 kd, .bool fl, .int .i64 n, .int .i64 ma, .int .i64 mb, .int .i64 mc, .int .i64 md, .int .i64 g.bits, .int .i64 g.depth, .bool g.big, .bool g.tru, .int .i64 g.rm, .int .i64 g.gm, .int .i64 g.bm, .int .i64 g.rs, .int .i64 g.gs, .int .i64 g.bs, en, .string t])
  have F2 := hide (F1.out.alloc (.cells #[.int .i64 kd, .bool fl, .int .i64 n, .int .i64 ma, .int .i64 mb, .int .i64 mc, .int .i64 md, .int .i64 g.bits, .int .i64 g.depth, .bool g.big, .bool g.tru, .int .i64 g.rm, .int .i64 g.gm, .int .i64 g.bm, .int .i64 g.rs, .int .i64 g.gs, .int .i64 g.bs, en, .string t] 65))
  have G2 := hide (G0.out.alloc (.cells #[.int .i64 kd, .bool fl, .int .i64 n, .int .i64 ma, .int .i64 mb, .int .i64 mc, .int .i64 md, .int .i64 g.bits, .int .i64 g.depth, .bool g.big, .bool g.tru, .int .i64 g.rm, .int .i64 g.gm, .int .i64 g.bm, .int .i64 g.rs, .int .i64 g.gs, .int .i64 g.bs, en, .string t] 65))
  have B2 := hide (B1.out.alloc B1.out.size (.cells #[.int .i64 kd, .bool fl, .int .i64 n, .int .i64 ma, .int .i64 mb, .int .i64 mc, .int .i64 md, .int .i64 g.bits, .int .i64 g.depth, .bool g.big, .bool g.tru, .int .i64 g.rm, .int .i64 g.gm, .int .i64 g.bm, .int .i64 g.rs, .int .i64 g.gs, .int .i64 g.bs, en, .string t] 65))
  have G3 : Hid (Blk (w.heap.size + 1) 62 #[.int .i64 hx, .int .i64 hy, .int .i64 hw, .int .i64 hh, .int .i64 he] (((w.alloc (.cells #[.int .i64 x, .int .i64 y, .int .i64 f.bits, .int .i64 f.depth, .bool f.big, .bool f.tru, .int .i64 f.rm, .int .i64 f.gm, .int .i64 f.bm, .int .i64 f.rs, .int .i64 f.gs, .int .i64 f.bs, .string nm] 58)).alloc (.cells #[.int .i64 hx, .int .i64 hy, .int .i64 hw, .int .i64 hh, .int .i64 he] 62)).alloc (.cells #[.int .i64 kd, .bool fl, .int .i64 n, .int .i64 ma, .int .i64 mb, .int .i64 mc, .int .i64 md, .int .i64 g.bits, .int .i64 g.depth, .bool g.big, .bool g.tru, .int .i64 g.rm, .int .i64 g.gm, .int .i64 g.bm, .int .i64 g.rs, .int .i64 g.gs, .int .i64 g.bs, en, .string t] 65))) := hide (by
    have h := G2.out
    rw [World.size_alloc] at h
    exact h)
  have H3 : Hid (Blk (w.heap.size + 1 + 1) 65 #[.int .i64 kd, .bool fl, .int .i64 n, .int .i64 ma, .int .i64 mb, .int .i64 mc, .int .i64 md, .int .i64 g.bits, .int .i64 g.depth, .bool g.big, .bool g.tru, .int .i64 g.rm, .int .i64 g.gm, .int .i64 g.bm, .int .i64 g.rs, .int .i64 g.gs, .int .i64 g.bs, en, .string t] (((w.alloc (.cells #[.int .i64 x, .int .i64 y, .int .i64 f.bits, .int .i64 f.depth, .bool f.big, .bool f.tru, .int .i64 f.rm, .int .i64 f.gm, .int .i64 f.bm, .int .i64 f.rs, .int .i64 f.gs, .int .i64 f.bs, .string nm] 58)).alloc (.cells #[.int .i64 hx, .int .i64 hy, .int .i64 hw, .int .i64 hh, .int .i64 he] 62)).alloc (.cells #[.int .i64 kd, .bool fl, .int .i64 n, .int .i64 ma, .int .i64 mb, .int .i64 mc, .int .i64 md, .int .i64 g.bits, .int .i64 g.depth, .bool g.big, .bool g.tru, .int .i64 g.rm, .int .i64 g.gm, .int .i64 g.bm, .int .i64 g.rs, .int .i64 g.gs, .int .i64 g.bs, en, .string t] 65))) := hide (by
    have h := H0.out
    rw [World.size_alloc, World.size_alloc] at h
    exact h)
  have l0 : (n0 : Int) ≤ 300 := by omega
  have l1 : (s.size : Int) ≤ 5000 := by omega
  have l2 : (5000 : Int) < nm.size := by omega
  clear F0 F1 G0 G2 H0 B0 B1
  go_enter Try.func10, Try.ntmps10
  go_upto_region 1 with fail
  generalize (((w.alloc (.cells #[.int .i64 x, .int .i64 y, .int .i64 f.bits, .int .i64 f.depth, .bool f.big, .bool f.tru, .int .i64 f.rm, .int .i64 f.gm, .int .i64 f.bm, .int .i64 f.rs, .int .i64 f.gs, .int .i64 f.bs, .string nm] 58)).alloc (.cells #[.int .i64 hx, .int .i64 hy, .int .i64 hw, .int .i64 hh, .int .i64 he] 62)).alloc (.cells #[.int .i64 kd, .bool fl, .int .i64 n, .int .i64 ma, .int .i64 mb, .int .i64 mc, .int .i64 md, .int .i64 g.bits, .int .i64 g.depth, .bool g.big, .bool g.tru, .int .i64 g.rm, .int .i64 g.gm, .int .i64 g.bm, .int .i64 g.rs, .int .i64 g.gs, .int .i64 g.bs, en, .string t] 65)) = w0 at *
  go_wp2_with fail
  refine (works48_any _).mono ?_
  rintro e w1 ⟨rfl, hb⟩
  have F_1 := hide (F2.out.below hb)
  have G_1 := hide (G3.out.below hb)
  have H_1 := hide (H3.out.below hb)
  have B_1 := hide (B2.out.trans (hb.mono B2.out.size))
  clear hb
  have f58x12 : w1.cell? ⟨w.heap.size, 12, none⟩ = some (.string nm) := F_1.out.cell 12
  have f65x18 : w1.cell? ⟨w.heap.size + 1 + 1, 18, none⟩ = some (.string t) := H_1.out.cell 18
  go_wp2_with fail
  go_ret
  exact ⟨rfl, B_1.out⟩

set_option maxHeartbeats 3200000 in
set_option maxRecDepth 100000 in
theorem law10_t (a0 : Option Addr) (n0 c0 : Nat) (s : ByteArray) (x y : Int) (f : Fmt) (nm : ByteArray) (hx hy hw hh he : Int) (kd : Int) (fl : Bool) (n ma mb mc md : Int) (g : Fmt) (en : Value) (t : ByteArray) (w : World) (q0 : n0 ≤ 300) (q1 : s.size ≤ 5000) (q2 : nm.size ≤ 5000) (q3 : 5000 < t.size) :
    Calls Try.prog 10 #[.slice a0 n0 c0, .string s, .agg #[.int .i64 x, .int .i64 y, .int .i64 f.bits, .int .i64 f.depth, .bool f.big, .bool f.tru, .int .i64 f.rm, .int .i64 f.gm, .int .i64 f.bm, .int .i64 f.rs, .int .i64 f.gs, .int .i64 f.bs, .string nm], .agg #[.int .i64 hx, .int .i64 hy, .int .i64 hw, .int .i64 hh, .int .i64 he], .agg #[.int .i64 kd, .bool fl, .int .i64 n, .int .i64 ma, .int .i64 mb, .int .i64 mc, .int .i64 md, .int .i64 g.bits, .int .i64 g.depth, .bool g.big, .bool g.tru, .int .i64 g.rm, .int .i64 g.gm, .int .i64 g.bm, .int .i64 g.rs, .int .i64 g.gs, .int .i64 g.bs, en, .string t]] w fun e w' => e = .returned (.bool true) ∧ Below w.heap.size w w' := by
  have F0 := hide (Blk.new w 58 #[.int .i64 x, .int .i64 y, .int .i64 f.bits, .int .i64 f.depth, .bool f.big, .bool f.tru, .int .i64 f.rm, .int .i64 f.gm, .int .i64 f.bm, .int .i64 f.rs, .int .i64 f.gs, .int .i64 f.bs, .string nm])
  have B0 := hide ((Below.refl w.heap.size w).alloc (Nat.le_refl _) (.cells #[.int .i64 x, .int .i64 y, .int .i64 f.bits, .int .i64 f.depth, .bool f.big, .bool f.tru, .int .i64 f.rm, .int .i64 f.gm, .int .i64 f.bm, .int .i64 f.rs, .int .i64 f.gs, .int .i64 f.bs, .string nm] 58))
  have G0 := hide (Blk.new (w.alloc (.cells #[.int .i64 x, .int .i64 y, .int .i64 f.bits, .int .i64 f.depth, .bool f.big, .bool f.tru, .int .i64 f.rm, .int .i64 f.gm, .int .i64 f.bm, .int .i64 f.rs, .int .i64 f.gs, .int .i64 f.bs, .string nm] 58)) 62 #[.int .i64 hx, .int .i64 hy, .int .i64 hw, .int .i64 hh, .int .i64 he])
  have F1 := hide (F0.out.alloc (.cells #[.int .i64 hx, .int .i64 hy, .int .i64 hw, .int .i64 hh, .int .i64 he] 62))
  have B1 := hide (B0.out.alloc B0.out.size (.cells #[.int .i64 hx, .int .i64 hy, .int .i64 hw, .int .i64 hh, .int .i64 he] 62))
  have H0 := hide (Blk.new ((w.alloc (.cells #[.int .i64 x, .int .i64 y, .int .i64 f.bits, .int .i64 f.depth, .bool f.big, .bool f.tru, .int .i64 f.rm, .int .i64 f.gm, .int .i64 f.bm, .int .i64 f.rs, .int .i64 f.gs, .int .i64 f.bs, .string nm] 58)).alloc (.cells #[.int .i64 hx, .int .i64 hy, .int .i64 hw, .int .i64 hh, .int .i64 he] 62)) 65 #[.int .i64 kd, .bool fl, .int .i64 n, .int .i64 ma, .int .i64 mb, .int .i64 mc, .int .i64 md, .int .i64 g.bits, .int .i64 g.depth, .bool g.big, .bool g.tru, .int .i64 g.rm, .int .i64 g.gm, .int .i64 g.bm, .int .i64 g.rs, .int .i64 g.gs, .int .i64 g.bs, en, .string t])
  have F2 := hide (F1.out.alloc (.cells #[.int .i64 kd, .bool fl, .int .i64 n, .int .i64 ma, .int .i64 mb, .int .i64 mc, .int .i64 md, .int .i64 g.bits, .int .i64 g.depth, .bool g.big, .bool g.tru, .int .i64 g.rm, .int .i64 g.gm, .int .i64 g.bm, .int .i64 g.rs, .int .i64 g.gs, .int .i64 g.bs, en, .string t] 65))
  have G2 := hide (G0.out.alloc (.cells #[.int .i64 kd, .bool fl, .int .i64 n, .int .i64 ma, .int .i64 mb, .int .i64 mc, .int .i64 md, .int .i64 g.bits, .int .i64 g.depth, .bool g.big, .bool g.tru, .int .i64 g.rm, .int .i64 g.gm, .int .i64 g.bm, .int .i64 g.rs, .int .i64 g.gs, .int .i64 g.bs, en, .string t] 65))
  have B2 := hide (B1.out.alloc B1.out.size (.cells #[.int .i64 kd, .bool fl, .int .i64 n, .int .i64 ma, .int .i64 mb, .int .i64 mc, .int .i64 md, .int .i64 g.bits, .int .i64 g.depth, .bool g.big, .bool g.tru, .int .i64 g.rm, .int .i64 g.gm, .int .i64 g.bm, .int .i64 g.rs, .int .i64 g.gs, .int .i64 g.bs, en, .string t] 65))
  have G3 : Hid (Blk (w.heap.size + 1) 62 #[.int .i64 hx, .int .i64 hy, .int .i64 hw, .int .i64 hh, .int .i64 he] (((w.alloc (.cells #[.int .i64 x, .int .i64 y, .int .i64 f.bits, .int .i64 f.depth, .bool f.big, .bool f.tru, .int .i64 f.rm, .int .i64 f.gm, .int .i64 f.bm, .int .i64 f.rs, .int .i64 f.gs, .int .i64 f.bs, .string nm] 58)).alloc (.cells #[.int .i64 hx, .int .i64 hy, .int .i64 hw, .int .i64 hh, .int .i64 he] 62)).alloc (.cells #[.int .i64 kd, .bool fl, .int .i64 n, .int .i64 ma, .int .i64 mb, .int .i64 mc, .int .i64 md, .int .i64 g.bits, .int .i64 g.depth, .bool g.big, .bool g.tru, .int .i64 g.rm, .int .i64 g.gm, .int .i64 g.bm, .int .i64 g.rs, .int .i64 g.gs, .int .i64 g.bs, en, .string t] 65))) := hide (by
    have h := G2.out
    rw [World.size_alloc] at h
    exact h)
  have H3 : Hid (Blk (w.heap.size + 1 + 1) 65 #[.int .i64 kd, .bool fl, .int .i64 n, .int .i64 ma, .int .i64 mb, .int .i64 mc, .int .i64 md, .int .i64 g.bits, .int .i64 g.depth, .bool g.big, .bool g.tru, .int .i64 g.rm, .int .i64 g.gm, .int .i64 g.bm, .int .i64 g.rs, .int .i64 g.gs, .int .i64 g.bs, en, .string t] (((w.alloc (.cells #[.int .i64 x, .int .i64 y, .int .i64 f.bits, .int .i64 f.depth, .bool f.big, .bool f.tru, .int .i64 f.rm, .int .i64 f.gm, .int .i64 f.bm, .int .i64 f.rs, .int .i64 f.gs, .int .i64 f.bs, .string nm] 58)).alloc (.cells #[.int .i64 hx, .int .i64 hy, .int .i64 hw, .int .i64 hh, .int .i64 he] 62)).alloc (.cells #[.int .i64 kd, .bool fl, .int .i64 n, .int .i64 ma, .int .i64 mb, .int .i64 mc, .int .i64 md, .int .i64 g.bits, .int .i64 g.depth, .bool g.big, .bool g.tru, .int .i64 g.rm, .int .i64 g.gm, .int .i64 g.bm, .int .i64 g.rs, .int .i64 g.gs, .int .i64 g.bs, en, .string t] 65))) := hide (by
    have h := H0.out
    rw [World.size_alloc, World.size_alloc] at h
    exact h)
  have l0 : (n0 : Int) ≤ 300 := by omega
  have l1 : (s.size : Int) ≤ 5000 := by omega
  have l2 : (nm.size : Int) ≤ 5000 := by omega
  have l3 : (5000 : Int) < t.size := by omega
  clear F0 F1 G0 G2 H0 B0 B1
  go_enter Try.func10, Try.ntmps10
  go_upto_region 1 with fail
  generalize (((w.alloc (.cells #[.int .i64 x, .int .i64 y, .int .i64 f.bits, .int .i64 f.depth, .bool f.big, .bool f.tru, .int .i64 f.rm, .int .i64 f.gm, .int .i64 f.bm, .int .i64 f.rs, .int .i64 f.gs, .int .i64 f.bs, .string nm] 58)).alloc (.cells #[.int .i64 hx, .int .i64 hy, .int .i64 hw, .int .i64 hh, .int .i64 he] 62)).alloc (.cells #[.int .i64 kd, .bool fl, .int .i64 n, .int .i64 ma, .int .i64 mb, .int .i64 mc, .int .i64 md, .int .i64 g.bits, .int .i64 g.depth, .bool g.big, .bool g.tru, .int .i64 g.rm, .int .i64 g.gm, .int .i64 g.bm, .int .i64 g.rs, .int .i64 g.gs, .int .i64 g.bs, en, .string t] 65)) = w0 at *
  go_wp2_with fail
  refine (works48_any _).mono ?_
  rintro e w1 ⟨rfl, hb⟩
  have F_1 := hide (F2.out.below hb)
  have G_1 := hide (G3.out.below hb)
  have H_1 := hide (H3.out.below hb)
  have B_1 := hide (B2.out.trans (hb.mono B2.out.size))
  clear hb
  have f58x12 : w1.cell? ⟨w.heap.size, 12, none⟩ = some (.string nm) := F_1.out.cell 12
  have f65x18 : w1.cell? ⟨w.heap.size + 1 + 1, 18, none⟩ = some (.string t) := H_1.out.cell 18
  go_wp2_with fail
  go_ret
  exact ⟨rfl, B_1.out⟩

/-- miradorlaw23.ServermsgWrites. -/
theorem law10_any (a0 : Option Addr) (n0 c0 : Nat) (zs : List Int) (s : ByteArray) (x y : Int) (f : Fmt) (nm : ByteArray) (hx hy hw hh he : Int) (kd : Int) (fl : Bool) (n ma mb mc md : Int) (g : Fmt) (en : Value) (t : ByteArray) (w : World) (hf : f.fit) (hI : IntsIn w.heap.size w a0 n0 zs) :
    Calls Try.prog 10 #[.slice a0 n0 c0, .string s, .agg #[.int .i64 x, .int .i64 y, .int .i64 f.bits, .int .i64 f.depth, .bool f.big, .bool f.tru, .int .i64 f.rm, .int .i64 f.gm, .int .i64 f.bm, .int .i64 f.rs, .int .i64 f.gs, .int .i64 f.bs, .string nm], .agg #[.int .i64 hx, .int .i64 hy, .int .i64 hw, .int .i64 hh, .int .i64 he], .agg #[.int .i64 kd, .bool fl, .int .i64 n, .int .i64 ma, .int .i64 mb, .int .i64 mc, .int .i64 md, .int .i64 g.bits, .int .i64 g.depth, .bool g.big, .bool g.tru, .int .i64 g.rm, .int .i64 g.gm, .int .i64 g.bm, .int .i64 g.rs, .int .i64 g.gs, .int .i64 g.bs, en, .string t]] w fun e w' => e = .returned (.bool true) ∧ Below w.heap.size w w' := by
  by_cases q0 : n0 ≤ 300
  · by_cases q1 : s.size ≤ 5000
    · by_cases q2 : nm.size ≤ 5000
      · by_cases q3 : t.size ≤ 5000
        · exact law10_yes a0 n0 c0 s x y f nm hx hy hw hh he kd fl n ma mb mc md g en t w q0 q1 q2 q3 _ _ _ _ _ _ _ _ _
            (hide fun v hb => kinds49_any a0 n0 c0 zs v (hide (intsIn_mono (hI.below hb) hb.size)) q0)
            (hide fun v hb => rkinds50_any a0 n0 c0 zs v (hide (intsIn_mono (hI.below hb) hb.size)) q0)
            (hide fun v => sta51_any x y f nm v hf (by omega))
            (hide fun v => sta52_any x y f nm v (by omega))
            (hide fun v => head53_any hx hy hw hh he v)
            (hide fun v => head54_any hx hy hw hh he v)
            (hide fun v => say55_any kd fl n ma mb mc md g en t v (by omega))
            (hide fun v => say56_any kd fl n ma mb mc md g en t v (by omega))
            (hide fun v => res57_any s v (by omega))
            (hide fun v => res58_any s v (by omega))
        · exact law10_t a0 n0 c0 s x y f nm hx hy hw hh he kd fl n ma mb mc md g en t w q0 q1 q2 (by omega)
      · exact law10_m a0 n0 c0 s x y f nm hx hy hw hh he kd fl n ma mb mc md g en t w q0 q1 (by omega)
    · exact law10_s a0 n0 c0 s x y f nm hx hy hw hh he kd fl n ma mb mc md g en t w q0 (by omega)
  · exact law10_n a0 n0 c0 s x y f nm hx hy hw hh he kd fl n ma mb mc md g en t w (by omega)

end Go.Proofs.Ytodlpofpeoiedaa
