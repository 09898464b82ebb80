/-
  What is read of bytes: servermsg.read, and StartOf.
-/
import Derived.Test.YtodlpofpeoiedaaDK
namespace Go.Proofs.Ytodlpofpeoiedaa
open Go.RowKit Go.Sort

theorem results_cell_tmp2 {P : Program} {fn : Func} {p t u : Tmp} {ty : TypeId} (h : fn.results = #[.cell p ty, .tmp t, .tmp u]) (tmps : Array Value) (w : World) (g : Nat) (tt : TypeId) (cs : Array Value) (fr : Nat × Nat) (d : TypeDesc)
    (hp : tmps.getD p undef = .pointer (some ⟨g, 0, none⟩)) (hg : w.heap[g]? = some (.cells cs tt fr)) (hu : P.underlying ty = some d) (hd : (match d with | .struct _ | .array _ _ => true | _ => false) = true) (hi : (P.info? ty).map (·.size) = some cs.size) :
    (results fn tmps).run P w = .ok (.tuple #[.agg cs, tmps.getD t undef, tmps.getD u undef]) w := by
  have hp' : tmps[p]?.getD undef = .pointer (some ⟨g, 0, none⟩) := by simpa using hp
  simp [results, h, hp', asAddr, run_loadVar_row w g tt ty cs fr d hg hu hd hi]

set_option maxHeartbeats 1200000 in
set_option maxRecDepth 100000 in
theorem read118_own (s : ByteArray) (d : Cu) (er : Int) (x y : Int) (f : Fmt) (nm : ByteArray) (w : World) (hE : (er == 0) = false) (hE2 : (er != 0) = true)
    (KD : Hid (∀ br bc w, IsRd br bc ⟨s, 0, 0⟩ 0 w → Hid (br ≠ bc) → Calls Try.prog 119 #[.pointer (some ⟨br, 0, none⟩)] w fun e w' => e = .returned (.agg #[.int .i64 x, .int .i64 y, .int .i64 f.bits, .int .i64 f.depth, .bool f.big, .bool f.tru, .int .i64 f.rm, .int .i64 f.gm, .int .i64 f.bm, .int .i64 f.rs, .int .i64 f.gs, .int .i64 f.bs, .string nm]) ∧ IsRd br bc d er w' ∧ Only2 br bc w w')) :
    Calls Try.prog 118 #[.string s, .func (.func 119) #[] #[]] w fun e w' => e = .returned (.tuple #[.agg #[.int .i64 0, .int .i64 0, .int .i64 0, .int .i64 0, .bool false, .bool false, .int .i64 0, .int .i64 0, .int .i64 0, .int .i64 0, .int .i64 0, .int .i64 0, .string ⟨#[]⟩], .int .i64 0, .int .i64 er]) ∧ Below w.heap.size w w' := by
  have F0 := hide (Blk.new w 58 #[.int .i64 0, .int .i64 0, .int .i64 0, .int .i64 0, .bool false, .bool false, .int .i64 0, .int .i64 0, .int .i64 0, .int .i64 0, .int .i64 0, .int .i64 0, .string ⟨#[]⟩])
  have B0 := hide ((Below.refl w.heap.size w).alloc (Nat.le_refl _) (.cells #[.int .i64 0, .int .i64 0, .int .i64 0, .int .i64 0, .bool false, .bool false, .int .i64 0, .int .i64 0, .int .i64 0, .int .i64 0, .int .i64 0, .int .i64 0, .string ⟨#[]⟩] 58))
  have Z0 : (w.alloc (.cells #[.int .i64 0, .int .i64 0, .int .i64 0, .int .i64 0, .bool false, .bool false, .int .i64 0, .int .i64 0, .int .i64 0, .int .i64 0, .int .i64 0, .int .i64 0, .string ⟨#[]⟩] 58)).heap.size = w.heap.size + 1 := World.size_alloc _ _
  go_enter Try.func118, Try.ntmps118
  go_upto_region 1 with fail
  generalize w.alloc (.cells #[.int .i64 0, .int .i64 0, .int .i64 0, .int .i64 0, .bool false, .bool false, .int .i64 0, .int .i64 0, .int .i64 0, .int .i64 0, .int .i64 0, .int .i64 0, .string ⟨#[]⟩] 58) = w0 at *
  go_wp2_with fail
  refine (new_any s _).mono ?_
  rintro e w1 ⟨rfl, hc, hb, hz⟩
  have I1 := hide hc
  have F1 := hide (F0.out.below hb)
  have B1 := hide (B0.out.trans (hb.mono (by omega)))
  have Z1 : w1.heap.size = w.heap.size + 2 := by rw [hz, Z0]
  rw [Z0] at I1
  clear hc hb hz
  have R2 := hide (show IsRd (w.heap.size + 2) (w.heap.size + 1) ⟨s, 0, 0⟩ 0 (w1.alloc (.cells #[.pointer (some ⟨w.heap.size + 1, 0, none⟩), .int .i64 0] 143)) from ⟨by have := Blk.new w1 143 #[.pointer (some ⟨w.heap.size + 1, 0, none⟩), .int .i64 0]; rwa [Z1] at this, I1.out.alloc _⟩)
  have F2 := hide (F1.out.alloc (.cells #[.pointer (some ⟨w.heap.size + 1, 0, none⟩), .int .i64 0] 143))
  have B2 := hide (B1.out.alloc (by omega) (.cells #[.pointer (some ⟨w.heap.size + 1, 0, none⟩), .int .i64 0] 143))
  have hne : Hid (w.heap.size + 2 ≠ w.heap.size + 1) := hide (by omega)
  have n1 : w.heap.size ≠ w.heap.size + 2 := by omega
  have n2 : w.heap.size ≠ w.heap.size + 1 := by omega
  go_upto_region 2 with fail
  generalize w1.alloc (.cells #[.pointer (some ⟨w.heap.size + 1, 0, none⟩), .int .i64 0] 143) = w2 at *
  go_wp2_with fail
  refine (KD.out (w.heap.size + 2) (w.heap.size + 1) _ R2.out hne).mono ?_
  rintro e w3 ⟨rfl, hr, ho⟩
  have R3 := hide hr
  have F3 := hide (ho.blk F2.out n1 n2)
  have B3 := hide (B2.out.trans (ho.below B2.out.size (by omega) (by omega)))
  clear hr ho
  have R4 := hide (R3.out.below ((Below.refl _ _).alloc (Nat.le_refl _) (.cells #[.int .i64 x, .int .i64 y, .int .i64 f.bits, .int .i64 f.depth, .bool f.big, .bool f.tru, .int .i64 f.rm, .int .i64 f.gm, .int .i64 f.bm, .int .i64 f.rs, .int .i64 f.gs, .int .i64 f.bs, .string nm] 58)))
  have F4 := hide (F3.out.alloc (.cells #[.int .i64 x, .int .i64 y, .int .i64 f.bits, .int .i64 f.depth, .bool f.big, .bool f.tru, .int .i64 f.rm, .int .i64 f.gm, .int .i64 f.bm, .int .i64 f.rs, .int .i64 f.gs, .int .i64 f.bs, .string nm] 58))
  have B4 := hide (B3.out.alloc B3.out.size (.cells #[.int .i64 x, .int .i64 y, .int .i64 f.bits, .int .i64 f.depth, .bool f.big, .bool f.tru, .int .i64 f.rm, .int .i64 f.gm, .int .i64 f.bm, .int .i64 f.rs, .int .i64 f.gs, .int .i64 f.bs, .string nm] 58))
  have G4 := hide (Blk.new w3 58 #[.int .i64 x, .int .i64 y, .int .i64 f.bits, .int .i64 f.depth, .bool f.big, .bool f.tru, .int .i64 f.rm, .int .i64 f.gm, .int .i64 f.bm, .int .i64 f.rs, .int .i64 f.gs, .int .i64 f.bs, .string nm])
  have Zx := B3.out.size
  go_upto_region 3 with fail
  generalize w3.alloc (.cells #[.int .i64 x, .int .i64 y, .int .i64 f.bits, .int .i64 f.depth, .bool f.big, .bool f.tru, .int .i64 f.rm, .int .i64 f.gm, .int .i64 f.bm, .int .i64 f.rs, .int .i64 f.gs, .int .i64 f.bs, .string nm] 58) = w4 at *
  have x0 := R4.out.ptr
  have x1 := R4.out.err
  have F5 := hide (F4.out.alloc (.cells #[.int .i64 0, .int .i64 0, .int .i64 0, .int .i64 0, .bool false, .bool false, .int .i64 0, .int .i64 0, .int .i64 0, .int .i64 0, .int .i64 0, .int .i64 0, .string ⟨#[]⟩] 58))
  have B5 := hide (B4.out.alloc B4.out.size (.cells #[.int .i64 0, .int .i64 0, .int .i64 0, .int .i64 0, .bool false, .bool false, .int .i64 0, .int .i64 0, .int .i64 0, .int .i64 0, .int .i64 0, .int .i64 0, .string ⟨#[]⟩] 58))
  have G5 := hide (Blk.new w4 58 #[.int .i64 0, .int .i64 0, .int .i64 0, .int .i64 0, .bool false, .bool false, .int .i64 0, .int .i64 0, .int .i64 0, .int .i64 0, .int .i64 0, .int .i64 0, .string ⟨#[]⟩])
  go_upto_region 8 with fail
  generalize w4.alloc (.cells #[.int .i64 0, .int .i64 0, .int .i64 0, .int .i64 0, .bool false, .bool false, .int .i64 0, .int .i64 0, .int .i64 0, .int .i64 0, .int .i64 0, .int .i64 0, .string ⟨#[]⟩] 58) = w5 at *
  go_step
  refine wpList_load_row rfl 58 (.tmp 10) rfl w4.heap.size rfl 58 _ _ _ G5.out Try.underlying58 rfl (by kernel_rfl) ?_
  first | (go_step; refine wpList_store_row rfl 58 (.tmp 4) (.tmp 31) rfl w.heap.size #[.int .i64 0, .int .i64 0, .int .i64 0, .int .i64 0, .bool false, .bool false, .int .i64 0, .int .i64 0, .int .i64 0, .int .i64 0, .int .i64 0, .int .i64 0, .string ⟨#[]⟩] rfl rfl 58 _ F5.out (by kernel_rfl) rfl (by simp [Value.oneCell']) ?_) | (go_step; go_step; refine wpList_store_row rfl 58 (.tmp 4) (.tmp 31) rfl w.heap.size #[.int .i64 0, .int .i64 0, .int .i64 0, .int .i64 0, .bool false, .bool false, .int .i64 0, .int .i64 0, .int .i64 0, .int .i64 0, .int .i64 0, .int .i64 0, .string ⟨#[]⟩] rfl rfl 58 _ F5.out (by kernel_rfl) rfl (by simp [Value.oneCell']) ?_) | (go_step; go_step; go_step; refine wpList_store_row rfl 58 (.tmp 4) (.tmp 31) rfl w.heap.size #[.int .i64 0, .int .i64 0, .int .i64 0, .int .i64 0, .bool false, .bool false, .int .i64 0, .int .i64 0, .int .i64 0, .int .i64 0, .int .i64 0, .int .i64 0, .string ⟨#[]⟩] rfl rfl 58 _ F5.out (by kernel_rfl) rfl (by simp [Value.oneCell']) ?_) | (go_step; go_step; go_step; go_step; refine wpList_store_row rfl 58 (.tmp 4) (.tmp 31) rfl w.heap.size #[.int .i64 0, .int .i64 0, .int .i64 0, .int .i64 0, .bool false, .bool false, .int .i64 0, .int .i64 0, .int .i64 0, .int .i64 0, .int .i64 0, .int .i64 0, .string ⟨#[]⟩] rfl rfl 58 _ F5.out (by kernel_rfl) rfl (by simp [Value.oneCell']) ?_) | (go_step; go_step; go_step; go_step; go_step; refine wpList_store_row rfl 58 (.tmp 4) (.tmp 31) rfl w.heap.size #[.int .i64 0, .int .i64 0, .int .i64 0, .int .i64 0, .bool false, .bool false, .int .i64 0, .int .i64 0, .int .i64 0, .int .i64 0, .int .i64 0, .int .i64 0, .string ⟨#[]⟩] rfl rfl 58 _ F5.out (by kernel_rfl) rfl (by simp [Value.oneCell']) ?_)
  have FE := hide (Blk.row (C' := #[.int .i64 0, .int .i64 0, .int .i64 0, .int .i64 0, .bool false, .bool false, .int .i64 0, .int .i64 0, .int .i64 0, .int .i64 0, .int .i64 0, .int .i64 0, .string ⟨#[]⟩]) F5.out)
  have on := hide (only_below (only_row w.heap.size w5 #[.int .i64 0, .int .i64 0, .int .i64 0, .int .i64 0, .bool false, .bool false, .int .i64 0, .int .i64 0, .int .i64 0, .int .i64 0, .int .i64 0, .int .i64 0, .string ⟨#[]⟩]) B5.out.size (Nat.le_refl _))
  generalize w5.setRow w.heap.size #[.int .i64 0, .int .i64 0, .int .i64 0, .int .i64 0, .bool false, .bool false, .int .i64 0, .int .i64 0, .int .i64 0, .int .i64 0, .int .i64 0, .int .i64 0, .string ⟨#[]⟩] = wz at *
  go_wp2_with fail
  refine bodyPost_ret (results_cell_tmp2 rfl _ _ w.heap.size 58 _ (0, 0) _ rfl FE.out Try.underlying58 rfl (by kernel_rfl)) rfl ?_
  exact ⟨rfl, B5.out.trans on.out⟩

set_option maxHeartbeats 1200000 in
set_option maxRecDepth 100000 in
theorem read118_cur (s : ByteArray) (d : Cu) (er : Int) (x y : Int) (f : Fmt) (nm : ByteArray) (w : World) (hE : (er == 0) = true) (hC : (d.e != 0) = true)
    (KD : Hid (∀ br bc w, IsRd br bc ⟨s, 0, 0⟩ 0 w → Hid (br ≠ bc) → Calls Try.prog 119 #[.pointer (some ⟨br, 0, none⟩)] w fun e w' => e = .returned (.agg #[.int .i64 x, .int .i64 y, .int .i64 f.bits, .int .i64 f.depth, .bool f.big, .bool f.tru, .int .i64 f.rm, .int .i64 f.gm, .int .i64 f.bm, .int .i64 f.rs, .int .i64 f.gs, .int .i64 f.bs, .string nm]) ∧ IsRd br bc d er w' ∧ Only2 br bc w w')) :
    Calls Try.prog 118 #[.string s, .func (.func 119) #[] #[]] w fun e w' => e = .returned (.tuple #[.agg #[.int .i64 0, .int .i64 0, .int .i64 0, .int .i64 0, .bool false, .bool false, .int .i64 0, .int .i64 0, .int .i64 0, .int .i64 0, .int .i64 0, .int .i64 0, .string ⟨#[]⟩], .int .i64 0, .int .i64 d.e]) ∧ Below w.heap.size w w' := by
  have F0 := hide (Blk.new w 58 #[.int .i64 0, .int .i64 0, .int .i64 0, .int .i64 0, .bool false, .bool false, .int .i64 0, .int .i64 0, .int .i64 0, .int .i64 0, .int .i64 0, .int .i64 0, .string ⟨#[]⟩])
  have B0 := hide ((Below.refl w.heap.size w).alloc (Nat.le_refl _) (.cells #[.int .i64 0, .int .i64 0, .int .i64 0, .int .i64 0, .bool false, .bool false, .int .i64 0, .int .i64 0, .int .i64 0, .int .i64 0, .int .i64 0, .int .i64 0, .string ⟨#[]⟩] 58))
  have Z0 : (w.alloc (.cells #[.int .i64 0, .int .i64 0, .int .i64 0, .int .i64 0, .bool false, .bool false, .int .i64 0, .int .i64 0, .int .i64 0, .int .i64 0, .int .i64 0, .int .i64 0, .string ⟨#[]⟩] 58)).heap.size = w.heap.size + 1 := World.size_alloc _ _
  go_enter Try.func118, Try.ntmps118
  go_upto_region 1 with fail
  generalize w.alloc (.cells #[.int .i64 0, .int .i64 0, .int .i64 0, .int .i64 0, .bool false, .bool false, .int .i64 0, .int .i64 0, .int .i64 0, .int .i64 0, .int .i64 0, .int .i64 0, .string ⟨#[]⟩] 58) = w0 at *
  go_wp2_with fail
  refine (new_any s _).mono ?_
  rintro e w1 ⟨rfl, hc, hb, hz⟩
  have I1 := hide hc
  have F1 := hide (F0.out.below hb)
  have B1 := hide (B0.out.trans (hb.mono (by omega)))
  have Z1 : w1.heap.size = w.heap.size + 2 := by rw [hz, Z0]
  rw [Z0] at I1
  clear hc hb hz
  have R2 := hide (show IsRd (w.heap.size + 2) (w.heap.size + 1) ⟨s, 0, 0⟩ 0 (w1.alloc (.cells #[.pointer (some ⟨w.heap.size + 1, 0, none⟩), .int .i64 0] 143)) from ⟨by have := Blk.new w1 143 #[.pointer (some ⟨w.heap.size + 1, 0, none⟩), .int .i64 0]; rwa [Z1] at this, I1.out.alloc _⟩)
  have F2 := hide (F1.out.alloc (.cells #[.pointer (some ⟨w.heap.size + 1, 0, none⟩), .int .i64 0] 143))
  have B2 := hide (B1.out.alloc (by omega) (.cells #[.pointer (some ⟨w.heap.size + 1, 0, none⟩), .int .i64 0] 143))
  have hne : Hid (w.heap.size + 2 ≠ w.heap.size + 1) := hide (by omega)
  have n1 : w.heap.size ≠ w.heap.size + 2 := by omega
  have n2 : w.heap.size ≠ w.heap.size + 1 := by omega
  go_upto_region 2 with fail
  generalize w1.alloc (.cells #[.pointer (some ⟨w.heap.size + 1, 0, none⟩), .int .i64 0] 143) = w2 at *
  go_wp2_with fail
  refine (KD.out (w.heap.size + 2) (w.heap.size + 1) _ R2.out hne).mono ?_
  rintro e w3 ⟨rfl, hr, ho⟩
  have R3 := hide hr
  have F3 := hide (ho.blk F2.out n1 n2)
  have B3 := hide (B2.out.trans (ho.below B2.out.size (by omega) (by omega)))
  clear hr ho
  have R4 := hide (R3.out.below ((Below.refl _ _).alloc (Nat.le_refl _) (.cells #[.int .i64 x, .int .i64 y, .int .i64 f.bits, .int .i64 f.depth, .bool f.big, .bool f.tru, .int .i64 f.rm, .int .i64 f.gm, .int .i64 f.bm, .int .i64 f.rs, .int .i64 f.gs, .int .i64 f.bs, .string nm] 58)))
  have F4 := hide (F3.out.alloc (.cells #[.int .i64 x, .int .i64 y, .int .i64 f.bits, .int .i64 f.depth, .bool f.big, .bool f.tru, .int .i64 f.rm, .int .i64 f.gm, .int .i64 f.bm, .int .i64 f.rs, .int .i64 f.gs, .int .i64 f.bs, .string nm] 58))
  have B4 := hide (B3.out.alloc B3.out.size (.cells #[.int .i64 x, .int .i64 y, .int .i64 f.bits, .int .i64 f.depth, .bool f.big, .bool f.tru, .int .i64 f.rm, .int .i64 f.gm, .int .i64 f.bm, .int .i64 f.rs, .int .i64 f.gs, .int .i64 f.bs, .string nm] 58))
  have G4 := hide (Blk.new w3 58 #[.int .i64 x, .int .i64 y, .int .i64 f.bits, .int .i64 f.depth, .bool f.big, .bool f.tru, .int .i64 f.rm, .int .i64 f.gm, .int .i64 f.bm, .int .i64 f.rs, .int .i64 f.gs, .int .i64 f.bs, .string nm])
  have Zx := B3.out.size
  go_upto_region 3 with fail
  generalize w3.alloc (.cells #[.int .i64 x, .int .i64 y, .int .i64 f.bits, .int .i64 f.depth, .bool f.big, .bool f.tru, .int .i64 f.rm, .int .i64 f.gm, .int .i64 f.bm, .int .i64 f.rs, .int .i64 f.gs, .int .i64 f.bs, .string nm] 58) = w4 at *
  have x0 := R4.out.ptr
  have x1 := R4.out.err
  go_wp2_with fail
  refine (err_any _ d _ R4.out.2).mono ?_
  rintro e w9 ⟨rfl, rfl⟩
  have F5 := hide (F4.out.alloc (.cells #[.int .i64 0, .int .i64 0, .int .i64 0, .int .i64 0, .bool false, .bool false, .int .i64 0, .int .i64 0, .int .i64 0, .int .i64 0, .int .i64 0, .int .i64 0, .string ⟨#[]⟩] 58))
  have B5 := hide (B4.out.alloc B4.out.size (.cells #[.int .i64 0, .int .i64 0, .int .i64 0, .int .i64 0, .bool false, .bool false, .int .i64 0, .int .i64 0, .int .i64 0, .int .i64 0, .int .i64 0, .int .i64 0, .string ⟨#[]⟩] 58))
  have G5 := hide (Blk.new w4 58 #[.int .i64 0, .int .i64 0, .int .i64 0, .int .i64 0, .bool false, .bool false, .int .i64 0, .int .i64 0, .int .i64 0, .int .i64 0, .int .i64 0, .int .i64 0, .string ⟨#[]⟩])
  go_upto_region 8 with fail
  generalize w4.alloc (.cells #[.int .i64 0, .int .i64 0, .int .i64 0, .int .i64 0, .bool false, .bool false, .int .i64 0, .int .i64 0, .int .i64 0, .int .i64 0, .int .i64 0, .int .i64 0, .string ⟨#[]⟩] 58) = w5 at *
  go_step
  refine wpList_load_row rfl 58 (.tmp 10) rfl w4.heap.size rfl 58 _ _ _ G5.out Try.underlying58 rfl (by kernel_rfl) ?_
  first | (go_step; refine wpList_store_row rfl 58 (.tmp 4) (.tmp 31) rfl w.heap.size #[.int .i64 0, .int .i64 0, .int .i64 0, .int .i64 0, .bool false, .bool false, .int .i64 0, .int .i64 0, .int .i64 0, .int .i64 0, .int .i64 0, .int .i64 0, .string ⟨#[]⟩] rfl rfl 58 _ F5.out (by kernel_rfl) rfl (by simp [Value.oneCell']) ?_) | (go_step; go_step; refine wpList_store_row rfl 58 (.tmp 4) (.tmp 31) rfl w.heap.size #[.int .i64 0, .int .i64 0, .int .i64 0, .int .i64 0, .bool false, .bool false, .int .i64 0, .int .i64 0, .int .i64 0, .int .i64 0, .int .i64 0, .int .i64 0, .string ⟨#[]⟩] rfl rfl 58 _ F5.out (by kernel_rfl) rfl (by simp [Value.oneCell']) ?_) | (go_step; go_step; go_step; refine wpList_store_row rfl 58 (.tmp 4) (.tmp 31) rfl w.heap.size #[.int .i64 0, .int .i64 0, .int .i64 0, .int .i64 0, .bool false, .bool false, .int .i64 0, .int .i64 0, .int .i64 0, .int .i64 0, .int .i64 0, .int .i64 0, .string ⟨#[]⟩] rfl rfl 58 _ F5.out (by kernel_rfl) rfl (by simp [Value.oneCell']) ?_) | (go_step; go_step; go_step; go_step; refine wpList_store_row rfl 58 (.tmp 4) (.tmp 31) rfl w.heap.size #[.int .i64 0, .int .i64 0, .int .i64 0, .int .i64 0, .bool false, .bool false, .int .i64 0, .int .i64 0, .int .i64 0, .int .i64 0, .int .i64 0, .int .i64 0, .string ⟨#[]⟩] rfl rfl 58 _ F5.out (by kernel_rfl) rfl (by simp [Value.oneCell']) ?_) | (go_step; go_step; go_step; go_step; go_step; refine wpList_store_row rfl 58 (.tmp 4) (.tmp 31) rfl w.heap.size #[.int .i64 0, .int .i64 0, .int .i64 0, .int .i64 0, .bool false, .bool false, .int .i64 0, .int .i64 0, .int .i64 0, .int .i64 0, .int .i64 0, .int .i64 0, .string ⟨#[]⟩] rfl rfl 58 _ F5.out (by kernel_rfl) rfl (by simp [Value.oneCell']) ?_)
  have FE := hide (Blk.row (C' := #[.int .i64 0, .int .i64 0, .int .i64 0, .int .i64 0, .bool false, .bool false, .int .i64 0, .int .i64 0, .int .i64 0, .int .i64 0, .int .i64 0, .int .i64 0, .string ⟨#[]⟩]) F5.out)
  have on := hide (only_below (only_row w.heap.size w5 #[.int .i64 0, .int .i64 0, .int .i64 0, .int .i64 0, .bool false, .bool false, .int .i64 0, .int .i64 0, .int .i64 0, .int .i64 0, .int .i64 0, .int .i64 0, .string ⟨#[]⟩]) B5.out.size (Nat.le_refl _))
  generalize w5.setRow w.heap.size #[.int .i64 0, .int .i64 0, .int .i64 0, .int .i64 0, .bool false, .bool false, .int .i64 0, .int .i64 0, .int .i64 0, .int .i64 0, .int .i64 0, .int .i64 0, .string ⟨#[]⟩] = wz at *
  go_wp2_with fail
  refine bodyPost_ret (results_cell_tmp2 rfl _ _ w.heap.size 58 _ (0, 0) _ rfl FE.out Try.underlying58 rfl (by kernel_rfl)) rfl ?_
  exact ⟨rfl, B5.out.trans on.out⟩

set_option maxHeartbeats 1200000 in
set_option maxRecDepth 100000 in
theorem read118_ok (s : ByteArray) (d : Cu) (er : Int) (x y : Int) (f : Fmt) (nm : ByteArray) (w : World) (hE : (er == 0) = true) (hC : (d.e != 0) = false)
    (KD : Hid (∀ br bc w, IsRd br bc ⟨s, 0, 0⟩ 0 w → Hid (br ≠ bc) → Calls Try.prog 119 #[.pointer (some ⟨br, 0, none⟩)] w fun e w' => e = .returned (.agg #[.int .i64 x, .int .i64 y, .int .i64 f.bits, .int .i64 f.depth, .bool f.big, .bool f.tru, .int .i64 f.rm, .int .i64 f.gm, .int .i64 f.bm, .int .i64 f.rs, .int .i64 f.gs, .int .i64 f.bs, .string nm]) ∧ IsRd br bc d er w' ∧ Only2 br bc w w')) :
    Calls Try.prog 118 #[.string s, .func (.func 119) #[] #[]] w fun e w' => e = .returned (.tuple #[.agg #[.int .i64 x, .int .i64 y, .int .i64 f.bits, .int .i64 f.depth, .bool f.big, .bool f.tru, .int .i64 f.rm, .int .i64 f.gm, .int .i64 f.bm, .int .i64 f.rs, .int .i64 f.gs, .int .i64 f.bs, .string nm], .int .i64 d.i, .int .i64 0]) ∧ Below w.heap.size w w' := by
  have F0 := hide (Blk.new w 58 #[.int .i64 0, .int .i64 0, .int .i64 0, .int .i64 0, .bool false, .bool false, .int .i64 0, .int .i64 0, .int .i64 0, .int .i64 0, .int .i64 0, .int .i64 0, .string ⟨#[]⟩])
  have B0 := hide ((Below.refl w.heap.size w).alloc (Nat.le_refl _) (.cells #[.int .i64 0, .int .i64 0, .int .i64 0, .int .i64 0, .bool false, .bool false, .int .i64 0, .int .i64 0, .int .i64 0, .int .i64 0, .int .i64 0, .int .i64 0, .string ⟨#[]⟩] 58))
  have Z0 : (w.alloc (.cells #[.int .i64 0, .int .i64 0, .int .i64 0, .int .i64 0, .bool false, .bool false, .int .i64 0, .int .i64 0, .int .i64 0, .int .i64 0, .int .i64 0, .int .i64 0, .string ⟨#[]⟩] 58)).heap.size = w.heap.size + 1 := World.size_alloc _ _
  go_enter Try.func118, Try.ntmps118
  go_upto_region 1 with fail
  generalize w.alloc (.cells #[.int .i64 0, .int .i64 0, .int .i64 0, .int .i64 0, .bool false, .bool false, .int .i64 0, .int .i64 0, .int .i64 0, .int .i64 0, .int .i64 0, .int .i64 0, .string ⟨#[]⟩] 58) = w0 at *
  go_wp2_with fail
  refine (new_any s _).mono ?_
  rintro e w1 ⟨rfl, hc, hb, hz⟩
  have I1 := hide hc
  have F1 := hide (F0.out.below hb)
  have B1 := hide (B0.out.trans (hb.mono (by omega)))
  have Z1 : w1.heap.size = w.heap.size + 2 := by rw [hz, Z0]
  rw [Z0] at I1
  clear hc hb hz
  have R2 := hide (show IsRd (w.heap.size + 2) (w.heap.size + 1) ⟨s, 0, 0⟩ 0 (w1.alloc (.cells #[.pointer (some ⟨w.heap.size + 1, 0, none⟩), .int .i64 0] 143)) from ⟨by have := Blk.new w1 143 #[.pointer (some ⟨w.heap.size + 1, 0, none⟩), .int .i64 0]; rwa [Z1] at this, I1.out.alloc _⟩)
  have F2 := hide (F1.out.alloc (.cells #[.pointer (some ⟨w.heap.size + 1, 0, none⟩), .int .i64 0] 143))
  have B2 := hide (B1.out.alloc (by omega) (.cells #[.pointer (some ⟨w.heap.size + 1, 0, none⟩), .int .i64 0] 143))
  have hne : Hid (w.heap.size + 2 ≠ w.heap.size + 1) := hide (by omega)
  have n1 : w.heap.size ≠ w.heap.size + 2 := by omega
  have n2 : w.heap.size ≠ w.heap.size + 1 := by omega
  go_upto_region 2 with fail
  generalize w1.alloc (.cells #[.pointer (some ⟨w.heap.size + 1, 0, none⟩), .int .i64 0] 143) = w2 at *
  go_wp2_with fail
  refine (KD.out (w.heap.size + 2) (w.heap.size + 1) _ R2.out hne).mono ?_
  rintro e w3 ⟨rfl, hr, ho⟩
  have R3 := hide hr
  have F3 := hide (ho.blk F2.out n1 n2)
  have B3 := hide (B2.out.trans (ho.below B2.out.size (by omega) (by omega)))
  clear hr ho
  have R4 := hide (R3.out.below ((Below.refl _ _).alloc (Nat.le_refl _) (.cells #[.int .i64 x, .int .i64 y, .int .i64 f.bits, .int .i64 f.depth, .bool f.big, .bool f.tru, .int .i64 f.rm, .int .i64 f.gm, .int .i64 f.bm, .int .i64 f.rs, .int .i64 f.gs, .int .i64 f.bs, .string nm] 58)))
  have F4 := hide (F3.out.alloc (.cells #[.int .i64 x, .int .i64 y, .int .i64 f.bits, .int .i64 f.depth, .bool f.big, .bool f.tru, .int .i64 f.rm, .int .i64 f.gm, .int .i64 f.bm, .int .i64 f.rs, .int .i64 f.gs, .int .i64 f.bs, .string nm] 58))
  have B4 := hide (B3.out.alloc B3.out.size (.cells #[.int .i64 x, .int .i64 y, .int .i64 f.bits, .int .i64 f.depth, .bool f.big, .bool f.tru, .int .i64 f.rm, .int .i64 f.gm, .int .i64 f.bm, .int .i64 f.rs, .int .i64 f.gs, .int .i64 f.bs, .string nm] 58))
  have G4 := hide (Blk.new w3 58 #[.int .i64 x, .int .i64 y, .int .i64 f.bits, .int .i64 f.depth, .bool f.big, .bool f.tru, .int .i64 f.rm, .int .i64 f.gm, .int .i64 f.bm, .int .i64 f.rs, .int .i64 f.gs, .int .i64 f.bs, .string nm])
  have Zx := B3.out.size
  go_upto_region 3 with fail
  generalize w3.alloc (.cells #[.int .i64 x, .int .i64 y, .int .i64 f.bits, .int .i64 f.depth, .bool f.big, .bool f.tru, .int .i64 f.rm, .int .i64 f.gm, .int .i64 f.bm, .int .i64 f.rs, .int .i64 f.gs, .int .i64 f.bs, .string nm] 58) = w4 at *
  have x0 := R4.out.ptr
  have x1 := R4.out.err
  go_wp2_with fail
  refine (err_any _ d _ R4.out.2).mono ?_
  rintro e w9 ⟨rfl, rfl⟩
  go_wp2_with fail
  have F6 := hide (show Blk w.heap.size 58 #[.int .i64 0, .int .i64 0, .int .i64 0, .int .i64 0, .bool false, .bool false, .int .i64 0, .int .i64 0, .int .i64 0, .int .i64 0, .int .i64 0, .int .i64 0, .string ⟨#[]⟩] w4.drew from F4.out)
  have R6 := hide (show IsRd (w.heap.size + 2) (w.heap.size + 1) d er w4.drew from R4.out)
  have B6 := hide (show Below w.heap.size w w4.drew from B4.out.drew)
  have G6 := hide (show Blk w3.heap.size 58 #[.int .i64 x, .int .i64 y, .int .i64 f.bits, .int .i64 f.depth, .bool f.big, .bool f.tru, .int .i64 f.rm, .int .i64 f.gm, .int .i64 f.bm, .int .i64 f.rs, .int .i64 f.gs, .int .i64 f.bs, .string nm] w4.drew from G4.out)
  refine plan_region [(0, true), (1, true), (2, true), (3, true), (4, true), (5, false), (6, false), (7, true), (8, true)] (fun w' => Blk w3.heap.size 58 #[.int .i64 x, .int .i64 y, .int .i64 f.bits, .int .i64 f.depth, .bool f.big, .bool f.tru, .int .i64 f.rm, .int .i64 f.gm, .int .i64 f.bm, .int .i64 f.rs, .int .i64 f.gs, .int .i64 f.bs, .string nm] w' ∧ w'.cell? ⟨w.heap.size + 2, 0, none⟩ = some (.pointer (some ⟨w.heap.size + 1, 0, none⟩))) [] rfl (by kernel_rfl) (fun _ _ d _ _ h => by cases d <;> exact h) ?_
  generalize w4.drew = w6 at *
  refine plan_v (i := 0) (N := (some 33)) (v := ?v9x0) (a' := ?b9x0) rfl rfl ⟨G6.out, R6.out.ptr⟩ (by rfl) ?hy9x0 ?ha9x0 ?_
  case hy9x0 =>
    intro w' hS'
    have g0 : w'.cell? ⟨w3.heap.size, 0, none⟩ = some (.int .i64 x) := hS'.1.cell 0
    have g1 : w'.cell? ⟨w3.heap.size, 1, none⟩ = some (.int .i64 y) := hS'.1.cell 1
    have g2 : w'.cell? ⟨w3.heap.size, 2, none⟩ = some (.int .i64 f.bits) := hS'.1.cell 2
    have g3 : w'.cell? ⟨w3.heap.size, 3, none⟩ = some (.int .i64 f.depth) := hS'.1.cell 3
    have g4 : w'.cell? ⟨w3.heap.size, 4, none⟩ = some (.bool f.big) := hS'.1.cell 4
    have g5 : w'.cell? ⟨w3.heap.size, 5, none⟩ = some (.bool f.tru) := hS'.1.cell 5
    have g6 : w'.cell? ⟨w3.heap.size, 6, none⟩ = some (.int .i64 f.rm) := hS'.1.cell 6
    have g7 : w'.cell? ⟨w3.heap.size, 7, none⟩ = some (.int .i64 f.gm) := hS'.1.cell 7
    have g8 : w'.cell? ⟨w3.heap.size, 8, none⟩ = some (.int .i64 f.bm) := hS'.1.cell 8
    have g9 : w'.cell? ⟨w3.heap.size, 9, none⟩ = some (.int .i64 f.rs) := hS'.1.cell 9
    have g10 : w'.cell? ⟨w3.heap.size, 10, none⟩ = some (.int .i64 f.gs) := hS'.1.cell 10
    have g11 : w'.cell? ⟨w3.heap.size, 11, none⟩ = some (.int .i64 f.bs) := hS'.1.cell 11
    have g12 : w'.cell? ⟨w3.heap.size, 12, none⟩ = some (.string nm) := hS'.1.cell 12
    go_simp
    with_reducible rfl
  case ha9x0 =>
    simp only [Act.put, List.setIfInBounds_toArray, List.set_cons_zero, List.set_cons_succ]
    rfl
  refine plan_v (i := 1) (N := (some 34)) (v := ?v9x1) (a' := ?b9x1) rfl rfl ⟨G6.out, R6.out.ptr⟩ (by rfl) ?hy9x1 ?ha9x1 ?_
  case hy9x1 =>
    intro w' hS'
    go_simp
    with_reducible rfl
  case ha9x1 =>
    simp only [Act.put, List.setIfInBounds_toArray, List.set_cons_zero, List.set_cons_succ]
    rfl
  refine plan_v (i := 2) (N := (some 35)) (v := ?v9x2) (a' := ?b9x2) rfl rfl ⟨G6.out, R6.out.ptr⟩ (by rfl) ?hy9x2 ?ha9x2 ?_
  case hy9x2 =>
    intro w' hS'
    go_simp
    with_reducible rfl
  case ha9x2 =>
    simp only [Act.put, List.setIfInBounds_toArray, List.set_cons_zero, List.set_cons_succ]
    rfl
  refine plan_v (i := 3) (N := (some 36)) (v := ?v9x3) (a' := ?b9x3) rfl rfl ⟨G6.out, R6.out.ptr⟩ (by rfl) ?hy9x3 ?ha9x3 ?_
  case hy9x3 =>
    intro w' hS'
    go_simp
    with_reducible rfl
  case ha9x3 =>
    simp only [Act.put, List.setIfInBounds_toArray, List.set_cons_zero, List.set_cons_succ]
    rfl
  refine plan_v (i := 4) (N := (some 37)) (v := ?v9x4) (a' := ?b9x4) rfl rfl ⟨G6.out, R6.out.ptr⟩ (by rfl) ?hy9x4 ?ha9x4 ?_
  case hy9x4 =>
    intro w' hS'
    have x0 := hS'.2
    go_simp
    with_reducible rfl
  case ha9x4 =>
    simp only [Act.put, List.setIfInBounds_toArray, List.set_cons_zero, List.set_cons_succ]
    rfl
  refine plan_e (i := 5) rfl (by rfl) (fun K hK => ?_)
  go_simp
  refine (at_any _ d _ R6.out.2).mono ?_
  rintro e w9 ⟨rfl, rfl⟩
  refine hK _ _ (fun _ => ⟨G6.out, R6.out.ptr⟩) ?_
  clear hK K
  refine plan_e (i := 6) rfl (by rfl) (fun K hK => ?_)
  refine wp_store_row 58 (.tmp 4) (.tmp 33) rfl w.heap.size #[.int .i64 x, .int .i64 y, .int .i64 f.bits, .int .i64 f.depth, .bool f.big, .bool f.tru, .int .i64 f.rm, .int .i64 f.gm, .int .i64 f.bm, .int .i64 f.rs, .int .i64 f.gs, .int .i64 f.bs, .string nm] rfl rfl 58 _ F6.out (by kernel_rfl) rfl (by simp [Value.oneCell']) ?_
  have FE := hide (Blk.row (C' := #[.int .i64 x, .int .i64 y, .int .i64 f.bits, .int .i64 f.depth, .bool f.big, .bool f.tru, .int .i64 f.rm, .int .i64 f.gm, .int .i64 f.bm, .int .i64 f.rs, .int .i64 f.gs, .int .i64 f.bs, .string nm]) F6.out)
  have on := hide (only_row w.heap.size w6 #[.int .i64 x, .int .i64 y, .int .i64 f.bits, .int .i64 f.depth, .bool f.big, .bool f.tru, .int .i64 f.rm, .int .i64 f.gm, .int .i64 f.bm, .int .i64 f.rs, .int .i64 f.gs, .int .i64 f.bs, .string nm])
  have GE := hide (G6.out.only on.out (by have := F3.out.lt; omega))
  have PE := hide ((R6.out.1.only on.out n1.symm).cell 0)
  refine hK _ _ (fun _ => ⟨GE.out, PE.out⟩) ?_
  clear hK K
  obtain ⟨wz, hwz⟩ : ∃ wz : World, wz = w6.setRow w.heap.size #[.int .i64 x, .int .i64 y, .int .i64 f.bits, .int .i64 f.depth, .bool f.big, .bool f.tru, .int .i64 f.rm, .int .i64 f.gm, .int .i64 f.bm, .int .i64 f.rs, .int .i64 f.gs, .int .i64 f.bs, .string nm] := ⟨_, rfl⟩
  rw [← hwz] at FE on GE PE ⊢
  clear hwz
  refine plan_norm (a' := ?bz) ?haz ?_
  case haz =>
    dsimp only [Act.put]
    rfl
  refine plan_v (i := 7) (N := (some 5)) (v := ?v9x7) (a' := ?b9x7) rfl rfl ⟨GE.out, PE.out⟩ (by rfl) ?hy9x7 ?ha9x7 ?_
  case hy9x7 =>
    intro w' hS'
    go_simp
    with_reducible rfl
  case ha9x7 =>
    dsimp only [Act.put]
    rfl
  refine plan_v (i := 8) (N := (some 6)) (v := ?v9x8) (a' := ?b9x8) rfl rfl ⟨GE.out, PE.out⟩ (by rfl) ?hy9x8 ?ha9x8 ?_
  case hy9x8 =>
    intro w' hS'
    go_simp
    with_reducible rfl
  case ha9x8 =>
    dsimp only [Act.put]
    rfl
  refine plan_done ?_
  go_wp2_with fail
  refine bodyPost_ret (results_cell_tmp2 rfl _ _ w.heap.size 58 _ (0, 0) _ rfl FE.out Try.underlying58 rfl (by kernel_rfl)) rfl ?_
  exact ⟨rfl, B6.out.trans (only_below on.out B6.out.size (Nat.le_refl _))⟩

end Go.Proofs.Ytodlpofpeoiedaa
