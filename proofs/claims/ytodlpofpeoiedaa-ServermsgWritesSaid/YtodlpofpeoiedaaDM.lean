/-
  servermsg.StartOf.
-/
import Derived.Test.YtodlpofpeoiedaaDL
namespace Go.Proofs.Ytodlpofpeoiedaa
open Go.RowKit Go.Sort

/-- What StartOf reads of bytes. -/
def soC (s : ByteArray) : Cu := ⟨s, 0, 0⟩
def soX (s : ByteArray) : Int := (soC s).int 2
def soY (s : ByteArray) : Int := ((soC s).bytes 2).int 2
def so3 (s : ByteArray) : Cu := (((soC s).bytes 2).bytes 2).bytes 16
def soS (s : ByteArray) : ByteArray := (((soC s).bytes 2).bytes 2).out 16
def soE1 (s : ByteArray) : Int := rdF (so3 s) 0 (soX s == 0 || soY s == 0) 3
def soE2 (s : ByteArray) : Int := rdF (so3 s) (soE1 s) (parseE (soS s) != 0) (parseE (soS s))
def soF (s : ByteArray) : Fmt := if soE2 s = 0 then parseF (soS s) else zeroF
def soN (s : ByteArray) : ByteArray := if soE2 s = 0 then rdT (so3 s) 0 else ⟨#[]⟩
def soD (s : ByteArray) : Cu := if soE2 s = 0 then rdC (so3 s) 0 else so3 s
def soR (s : ByteArray) : Int := if soE2 s = 0 then rdE (so3 s) 0 else soE2 s
def soE (s : ByteArray) : Int := if soR s = 0 then (soD s).e else soR s

theorem start119_any (s : ByteArray) (hs : s.size ≤ 1099511627776) (br bc : Nat) (w : World) (h : IsRd br bc ⟨s, 0, 0⟩ 0 w) (hne : Hid (br ≠ bc)) :
    Calls Try.prog 119 #[.pointer (some ⟨br, 0, none⟩)] w fun e w' => e = .returned (.agg (staC (soX s) (soY s) (soF s) (soN s))) ∧ IsRd br bc (soD s) (soR s) w' ∧ Only2 br bc w w' := by
  have ok0 : Hid (soC s).ok := hide ⟨Nat.zero_le _, hs⟩
  have ok2 := cu_ok _ 2 (cu_ok _ 2 ok0.out)
  have zS : (soS s).size ≤ 1099511627776 := by
    unfold soS
    rw [Cu.out_size _ ok2]
    split
    · decide
    · decide
  have KP : ∀ w, Calls Try.prog 15 #[.string (soS s)] w fun e w' => e = .returned (.tuple #[fmtV (parseF (soS s)), .int .i64 (parseE (soS s))]) ∧ Below w.heap.size w w' := fun w => parse_any (soS s) w zS
  by_cases hz : soE2 s = 0
  · have hzb : (soE2 s == 0) = true := by simpa using hz
    have e1 : soF s = parseF (soS s) := if_pos hz
    have e2 : soN s = rdT (so3 s) (soE2 s) := by rw [soN, if_pos hz, hz]
    have e3 : soD s = rdC (so3 s) (soE2 s) := by rw [soD, if_pos hz, hz]
    have e4 : soR s = rdE (so3 s) (soE2 s) := by rw [soR, if_pos hz, hz]
    rw [e1, e2, e3, e4]
    cases hx : soX s == 0 with
    | true => exact startOf_yes0 br bc (soC s) 0 w h hne ok0 (soX s) (soY s) _ (so3 s) (soS s) _ _ (soE1 s) (soE2 s) rfl rfl rfl rfl rfl hx (hide (by unfold soE1; rw [hx]; rfl)) rfl hzb KP
    | false => exact startOf_yes1 br bc (soC s) 0 w h hne ok0 (soX s) (soY s) _ (so3 s) (soS s) _ _ (soE1 s) (soE2 s) rfl rfl rfl rfl rfl hx (hide (by unfold soE1; rw [hx]; rfl)) rfl hzb KP
  · have hzb : (soE2 s == 0) = false := by simpa using hz
    have e1 : soF s = zeroF := if_neg hz
    have e2 : soN s = ⟨#[]⟩ := if_neg hz
    have e3 : soD s = so3 s := if_neg hz
    have e4 : soR s = soE2 s := if_neg hz
    rw [e1, e2, e3, e4]
    cases hx : soX s == 0 with
    | true => exact startOf_no0 br bc (soC s) 0 w h hne ok0 (soX s) (soY s) _ (so3 s) (soS s) _ _ (soE1 s) (soE2 s) rfl rfl rfl rfl rfl hx (hide (by unfold soE1; rw [hx]; rfl)) rfl hzb KP
    | false => exact startOf_no1 br bc (soC s) 0 w h hne ok0 (soX s) (soY s) _ (so3 s) (soS s) _ _ (soE1 s) (soE2 s) rfl rfl rfl rfl rfl hx (hide (by unfold soE1; rw [hx]; rfl)) rfl hzb KP

/-- What StartOf tells. -/
def stX (s : ByteArray) : Int := if soE s = 0 then soX s else 0
def stY (s : ByteArray) : Int := if soE s = 0 then soY s else 0
def stF (s : ByteArray) : Fmt := if soE s = 0 then soF s else zeroF
def stN (s : ByteArray) : ByteArray := if soE s = 0 then soN s else ⟨#[]⟩
def stI (s : ByteArray) : Int := if soE s = 0 then (soD s).i else 0

theorem read118_any (s : ByteArray) (w : World) (hs : s.size ≤ 1099511627776) :
    Calls Try.prog 118 #[.string s, .func (.func 119) #[] #[]] w fun e w' => e = .returned (.tuple #[.agg (staC (stX s) (stY s) (stF s) (stN s)), .int .i64 (stI s), .int .i64 (soE s)]) ∧ Below w.heap.size w w' := by
  have KD := fun br bc w h hne => start119_any s hs br bc w h hne
  by_cases hr : soR s = 0
  · have hE : (soR s == 0) = true := by simpa using hr
    have e0 : soE s = (soD s).e := if_pos hr
    by_cases hc : (soD s).e = 0
    · have hz : soE s = 0 := by rw [e0, hc]
      have e1 : stX s = soX s := if_pos hz
      have e2 : stY s = soY s := if_pos hz
      have e3 : stF s = soF s := if_pos hz
      have e4 : stN s = soN s := if_pos hz
      have e5 : stI s = (soD s).i := if_pos hz
      rw [e1, e2, e3, e4, e5, hz]
      exact read118_ok s (soD s) (soR s) _ _ _ _ w hE (by simpa using hc) KD
    · have hz : ¬ soE s = 0 := by rw [e0]; exact hc
      have e1 : stX s = 0 := if_neg hz
      have e2 : stY s = 0 := if_neg hz
      have e3 : stF s = zeroF := if_neg hz
      have e4 : stN s = ⟨#[]⟩ := if_neg hz
      have e5 : stI s = 0 := if_neg hz
      rw [e1, e2, e3, e4, e5, e0]
      exact read118_cur s (soD s) (soR s) _ _ _ _ w hE (by simpa using hc) KD
  · have hE : (soR s == 0) = false := by simpa using hr
    have e0 : soE s = soR s := if_neg hr
    have hz : ¬ soE s = 0 := by rw [e0]; exact hr
    have e1 : stX s = 0 := if_neg hz
    have e2 : stY s = 0 := if_neg hz
    have e3 : stF s = zeroF := if_neg hz
    have e4 : stN s = ⟨#[]⟩ := if_neg hz
    have e5 : stI s = 0 := if_neg hz
    rw [e1, e2, e3, e4, e5, e0]
    exact read118_own s (soD s) (soR s) _ _ _ _ w hE (by simpa using hr) KD

set_option maxHeartbeats 1200000 in
set_option maxRecDepth 100000 in
theorem startOf64_walk (s : ByteArray) (x y : Int) (f : Fmt) (nm : ByteArray) (i e : Int) (w : World)
    (K118 : Hid (∀ w, Calls Try.prog 118 #[.string s, .func (.func 119) #[] #[]] w fun en w' => en = .returned (.tuple #[.agg (staC x y f nm), .int .i64 i, .int .i64 e]) ∧ Below w.heap.size w w')) :
    Calls Try.prog 64 #[.string s] w fun en w' => en = .returned (.tuple #[.agg (staC x y f nm), .int .i64 i, .int .i64 e]) ∧ Below w.heap.size w w' := by
  have F0 := hide (Blk.new w 58 #[.int .i64 0, .int .i64 0, .int .i64 0, .int .i64 0, .bool false, .bool false, .int .i64 0, .int .i64 0, .int .i64 0, .int .i64 0, .int .i64 0, .int .i64 0, .string ⟨#[]⟩])
  have B0 := hide ((Below.refl w.heap.size w).alloc (Nat.le_refl _) (.cells #[.int .i64 0, .int .i64 0, .int .i64 0, .int .i64 0, .bool false, .bool false, .int .i64 0, .int .i64 0, .int .i64 0, .int .i64 0, .int .i64 0, .int .i64 0, .string ⟨#[]⟩] 58))
  go_enter Try.func64, Try.ntmps64
  go_upto_region 1 with fail
  generalize w.alloc (.cells #[.int .i64 0, .int .i64 0, .int .i64 0, .int .i64 0, .bool false, .bool false, .int .i64 0, .int .i64 0, .int .i64 0, .int .i64 0, .int .i64 0, .int .i64 0, .string ⟨#[]⟩] 58) = w0 at *
  go_wp2_with fail
  refine (K118.out _).mono ?_
  rintro en w1 ⟨rfl, hb⟩
  have F1 := hide (F0.out.below hb)
  have B1 := hide (B0.out.trans (hb.mono B0.out.size))
  clear hb
  dsimp only
  iterate 4 go_step
  first | (refine wpList_store_row rfl 58 (.tmp 2) (.tmp 7) rfl w.heap.size #[.int .i64 x, .int .i64 y, .int .i64 f.bits, .int .i64 f.depth, .bool f.big, .bool f.tru, .int .i64 f.rm, .int .i64 f.gm, .int .i64 f.bm, .int .i64 f.rs, .int .i64 f.gs, .int .i64 f.bs, .string nm] rfl rfl 58 _ F1.out (by kernel_rfl) rfl (by simp [Value.oneCell']) ?_) | (go_step; refine wpList_store_row rfl 58 (.tmp 2) (.tmp 7) rfl w.heap.size #[.int .i64 x, .int .i64 y, .int .i64 f.bits, .int .i64 f.depth, .bool f.big, .bool f.tru, .int .i64 f.rm, .int .i64 f.gm, .int .i64 f.bm, .int .i64 f.rs, .int .i64 f.gs, .int .i64 f.bs, .string nm] rfl rfl 58 _ F1.out (by kernel_rfl) rfl (by simp [Value.oneCell']) ?_) | (go_step; go_step; refine wpList_store_row rfl 58 (.tmp 2) (.tmp 7) rfl w.heap.size #[.int .i64 x, .int .i64 y, .int .i64 f.bits, .int .i64 f.depth, .bool f.big, .bool f.tru, .int .i64 f.rm, .int .i64 f.gm, .int .i64 f.bm, .int .i64 f.rs, .int .i64 f.gs, .int .i64 f.bs, .string nm] rfl rfl 58 _ F1.out (by kernel_rfl) rfl (by simp [Value.oneCell']) ?_) | (go_step; go_step; go_step; refine wpList_store_row rfl 58 (.tmp 2) (.tmp 7) rfl w.heap.size #[.int .i64 x, .int .i64 y, .int .i64 f.bits, .int .i64 f.depth, .bool f.big, .bool f.tru, .int .i64 f.rm, .int .i64 f.gm, .int .i64 f.bm, .int .i64 f.rs, .int .i64 f.gs, .int .i64 f.bs, .string nm] rfl rfl 58 _ F1.out (by kernel_rfl) rfl (by simp [Value.oneCell']) ?_) | (go_step; go_step; go_step; go_step; refine wpList_store_row rfl 58 (.tmp 2) (.tmp 7) rfl w.heap.size #[.int .i64 x, .int .i64 y, .int .i64 f.bits, .int .i64 f.depth, .bool f.big, .bool f.tru, .int .i64 f.rm, .int .i64 f.gm, .int .i64 f.bm, .int .i64 f.rs, .int .i64 f.gs, .int .i64 f.bs, .string nm] rfl rfl 58 _ F1.out (by kernel_rfl) rfl (by simp [Value.oneCell']) ?_) | (go_step; go_step; go_step; go_step; go_step; refine wpList_store_row rfl 58 (.tmp 2) (.tmp 7) rfl w.heap.size #[.int .i64 x, .int .i64 y, .int .i64 f.bits, .int .i64 f.depth, .bool f.big, .bool f.tru, .int .i64 f.rm, .int .i64 f.gm, .int .i64 f.bm, .int .i64 f.rs, .int .i64 f.gs, .int .i64 f.bs, .string nm] rfl rfl 58 _ F1.out (by kernel_rfl) rfl (by simp [Value.oneCell']) ?_) | (go_step; go_step; go_step; go_step; go_step; go_step; refine wpList_store_row rfl 58 (.tmp 2) (.tmp 7) rfl w.heap.size #[.int .i64 x, .int .i64 y, .int .i64 f.bits, .int .i64 f.depth, .bool f.big, .bool f.tru, .int .i64 f.rm, .int .i64 f.gm, .int .i64 f.bm, .int .i64 f.rs, .int .i64 f.gs, .int .i64 f.bs, .string nm] rfl rfl 58 _ F1.out (by kernel_rfl) rfl (by simp [Value.oneCell']) ?_) | (go_step; go_step; go_step; go_step; go_step; go_step; go_step; refine wpList_store_row rfl 58 (.tmp 2) (.tmp 7) rfl w.heap.size #[.int .i64 x, .int .i64 y, .int .i64 f.bits, .int .i64 f.depth, .bool f.big, .bool f.tru, .int .i64 f.rm, .int .i64 f.gm, .int .i64 f.bm, .int .i64 f.rs, .int .i64 f.gs, .int .i64 f.bs, .string nm] rfl rfl 58 _ F1.out (by kernel_rfl) rfl (by simp [Value.oneCell']) ?_)
  have FE := hide (Blk.row (C' := #[.int .i64 x, .int .i64 y, .int .i64 f.bits, .int .i64 f.depth, .bool f.big, .bool f.tru, .int .i64 f.rm, .int .i64 f.gm, .int .i64 f.bm, .int .i64 f.rs, .int .i64 f.gs, .int .i64 f.bs, .string nm]) F1.out)
  have on := hide (only_below (only_row w.heap.size w1 #[.int .i64 x, .int .i64 y, .int .i64 f.bits, .int .i64 f.depth, .bool f.big, .bool f.tru, .int .i64 f.rm, .int .i64 f.gm, .int .i64 f.bm, .int .i64 f.rs, .int .i64 f.gs, .int .i64 f.bs, .string nm]) B1.out.size (Nat.le_refl _))
  generalize w1.setRow w.heap.size #[.int .i64 x, .int .i64 y, .int .i64 f.bits, .int .i64 f.depth, .bool f.big, .bool f.tru, .int .i64 f.rm, .int .i64 f.gm, .int .i64 f.bm, .int .i64 f.rs, .int .i64 f.gs, .int .i64 f.bs, .string nm] = wz at *
  go_wp2_with fail
  refine bodyPost_ret (results_cell_tmp2 rfl _ _ w.heap.size 58 _ (0, 0) _ rfl FE.out Try.underlying58 rfl (by kernel_rfl)) rfl ?_
  exact ⟨rfl, B1.out.trans on.out⟩

theorem startOf64_any (s : ByteArray) (w : World) (hs : s.size ≤ 1099511627776) :
    Calls Try.prog 64 #[.string s] w fun e w' => e = .returned (.tuple #[.agg (staC (stX s) (stY s) (stF s) (stN s)), .int .i64 (stI s), .int .i64 (soE s)]) ∧ Below w.heap.size w w' :=
  startOf64_walk s _ _ _ _ _ _ w (hide fun w => read118_any s w hs)

end Go.Proofs.Ytodlpofpeoiedaa
