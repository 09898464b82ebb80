/-
  plain.Values: colours' values.
-/
import Derived.Test.YtodlpofpeoiedaaCD
namespace Go.Proofs.Ytodlpofpeoiedaa
open Go.RowKit Go.Shelf Go.Sort

attribute [local go_sem] Oper.semAt_some

/-- What stands between two rounds: the box holds a slice of the values that have come. -/
def ValI (B Bv b : Nat) (f : Fmt) (w : World) (pre : List Int) (W : World) : Prop :=
  (∃ v, Boxed W b 32 v ∧ W.ownsRow B 3 1 v pre.length (pre.map (Value.int .i64)) ∧ (v = .slice none 0 0 ↔ pre = [])) ∧ Blk Bv 23 (fmtC f) W ∧ Below B w W

theorem valI_from (B Bv b D : Nat) (f : Fmt) (w : World) (hBv : Bv < D) (hBD : B ≤ D) (hw : B ≤ w.heap.size) : OwnFrom D (ValI B Bv b f w) := by
  rintro s X Y row ⟨h1, h4, h3⟩ hg hr
  refine ⟨holdsRow_own B b 32 3 1 (fun pre => pre.length) (fun pre => pre.map (Value.int .i64)) (fun pre v => v = .slice none 0 0 ↔ pre = []) s X Y row h1 hg fun r e => (hr r e).2, ?_, h3.grown hg (Nat.le_trans hw h3.size) fun k e => Nat.le_trans hBD (hr k e).1⟩
  have hlt : Bv < X.heap.size := (Array.getElem?_eq_some_iff.1 h4).1
  exact (hg.block Bv hlt fun e => by have := (hr Bv e.symm).1; omega).trans h4

theorem own_kind {w : World} {B e n : Nat} {v : Value} {xs : List Value} (h : w.ownsRow B e 1 v n xs) : ∀ g, v.ownBlock = some g → ∃ c, w.heap[g]? = some (.cells c e (0, 0)) := by
  intro g hg
  rcases h.2 with ⟨rfl, _⟩ | ⟨k, cap, cur, rfl, _, hb, _⟩
  · simp [Value.ownBlock] at hg
  · obtain rfl : k = g := by simpa [Value.ownBlock] using hg
    exact ⟨_, hb⟩

set_option maxHeartbeats 2000000 in
set_option maxRecDepth 100000 in
/-- plain.Values. -/
theorem vals_any (f : Fmt) (a : Option Addr) (len cap : Nat) (zs : List Int) (w : World) (hf : f.fit) (hlen : len ≤ 1099511627776) (hI : Hid (IntsIn w.heap.size w a len zs)) :
    Calls Try.prog 32 #[fmtV f, .slice a len cap] w fun e w' => ∃ v, e = .returned v ∧ w'.ownsRow w.heap.size 3 1 v len ((zs.map (valA f)).map (Value.int .i64)) ∧ Below w.heap.size w w' := by
  have hlz := hI.out.1
  obtain ⟨i0, hi, hz0, hz1, hz2⟩ := info_parts info3
  have F0 := hide (Blk.new w 23 (fmtC f))
  have B0 := hide ((Below.refl w.heap.size w).alloc (Nat.le_refl _) (.cells (fmtC f) 23))
  refine (callsIn_wide (n := 5)).1 ?_
  refine callsIn_of_wp_marks Try.func32 rfl trivial ?_ rfl
  simp only [Try.ntmps32, List.size_toArray, List.length_cons, List.length_nil, Nat.reduceAdd, Nat.reduceSub, Array.replicate_succ, Array.replicate_zero, List.push_toArray, List.append_toArray, List.nil_append, List.cons_append]
  gi_wp2_with fail
  refine ⟨trivial, ?_⟩
  gi_at_call 87
  refine (callsIn_wide.2 (values_mk f a len cap _)).mono ?_
  rintro e w1 ⟨rfl, hz1', hF1, hc1, hb1⟩
  have S2 : ((w.alloc (.cells (fmtC f) 23)).alloc (.cells #[.slice none 0 0] 32)).heap.size = w.heap.size + 2 := by simp
  have X0 : Boxed ((w.alloc (.cells (fmtC f) 23)).alloc (.cells #[.slice none 0 0] 32)) (w.heap.size + 1) 32 (.slice none 0 0) := by
    have := Boxed.new (w.alloc (.cells (fmtC f) 23)) 32 (.slice none 0 0)
    rwa [World.size_alloc] at this
  have I1 : Hid (Boxed w1 (w.heap.size + 1) 32 (.slice none 0 0)) := hide ((hb1.block _ (by rw [S2]; omega)).trans X0)
  have B1 : Hid (Below w.heap.size w w1) := hide ((B0.out.alloc (by simp) _).trans (hb1.mono (by rw [S2]; omega)))
  rw [S2] at hz1' hF1 hc1 ⊢
  have hz := hz1'
  have HF := hide hF1
  have HC := hide hc1
  clear hF1 hc1 hb1 S2 hz1' F0 B0 X0
  gi_wp2_with fail
  refine wpIn_rangeFunc_ownG rfl (by omega) (gf := 134) (lb := #[.pointer (some ⟨w.heap.size + 2 + 1, 0, none⟩), .pointer (some ⟨w.heap.size + 2, 0, none⟩)]) rfl trivial (enters_of Try.func134 (by kernel_rfl) rfl)
    (values_stops (5 - 1) (by omega) f hf (w.heap.size + 2 + 1) (w.heap.size + 2) w.heap.size len cap a zs (by omega) w1 (by omega) (by omega) HF.out HC.out (hI.out.below B1.out))
    (fun h k => h.trans k) (fun W l o o' hl ho hc hw => ⟨belowK_b (w := w1) (by omega) W l o o' hl ho hc hw, World.putObj_heap_other (by omega)⟩) (Below.refl _ _) (fun _ => rfl)
    (ValI w.heap.size (w.heap.size + 2) (w.heap.size + 1) f w) (fun _ _ _ => False)
    (valI_from _ _ _ _ f w (by omega) (by omega) (by omega)) (fun _ _ _ _ _ hs _ _ => hs)
    ⟨⟨_, I1.out, World.ownsRow_nil _ _ _ _, by simp⟩, HF.out, B1.out⟩
    (fun x => { tmps := #[fmtV f, .slice a len cap, .pointer (some ⟨w.heap.size, 0, none⟩), undef, .slice none 0 0, .pointer (some ⟨w.heap.size + 1, 0, none⟩), .int .i64 x, fmtV f, .slice a len cap, .func (.func 134) #[] #[.pointer (some ⟨w.heap.size + 2 + 1, 0, none⟩), .pointer (some ⟨w.heap.size + 2, 0, none⟩)], .int .i64 x, undef, undef, undef, undef, undef], defers := [] }) ?assign ?body ?done ?stop
  case assign =>
    intro l x W K hK
    gi_wp2
    exact hK
  case body =>
    rintro l pre x W ⟨⟨v, hv, hrow, hnil⟩, hV, hB⟩ hlt
    have hc := hv.cell
    have HV := hide hV
    have HB := hide hB
    have hsz := hB.size
    clear hV hB hnil
    have hzz := hide hz
    clear hz hlz
    gi_wp2_with (gi_at_builtin; refine wpListIn_append_own _ rfl _ _ 32 rfl w.heap.size 3 i0 (.int .i64 0) 1 8 Try.underlying32 hi hz0 hz1 hz2 rfl (by decide) _ _ _ rfl (hrow.alloc _) ⟨W.heap.size, 0, none⟩ 1 1 [.int .i64 x] rfl rfl (cell_one_new _ _ _) (by simp [Value.oneCell']) (by unfold maxLen; omega) (by omega) (by simp; omega) ?_; intro v' w1 hown' hgrow _; obtain ⟨g', cap', rfl⟩ := ownsRow_succ hown'; obtain ⟨hv1, hv2, hr2, hk2, hb2⟩ := hv.appended (by decide) hrow hsz (by omega) hown' hgrow; have hc1 := hv1.cell; have hf1 := hv1.frozen)
    have hVl : w.heap.size + 2 < W.heap.size := (Array.getElem?_eq_some_iff.1 HV.out).1
    have hV3 : w1.heap[w.heap.size + 2]? = W.heap[w.heap.size + 2]? := by
      refine (hgrow.block _ (by simp; omega) fun e => ?_).trans (Below.heap_alloc _ _ _ hVl)
      obtain ⟨c, h3⟩ := own_kind hrow _ e.symm
      rw [HV.out] at h3
      cases h3
    have hV4 := (Below.heap_setCell w1 ⟨w.heap.size + 1, 0, none⟩ (.slice (some ⟨g', 0, none⟩) (pre.length + 1) cap') (w.heap.size + 2) (by simp)).trans hV3
    refine ⟨hk2.from _, ⟨hb2, hV4⟩, ⟨_, hv2, ?_, by simp⟩, hV4.trans HV.out, HB.out.trans hb2⟩
    rw [List.length_append, List.map_append]
    exact hr2
  case done =>
    rintro D ys W hD rfl ⟨⟨v, hv, hrow, hnil⟩, hV, hB⟩ hK
    have hc := hv.cell
    have HBW := hide hB
    have HK := hide hK
    have HN := hide hnil
    clear hV hB hK hnil
    gi_wp2_with fail
    refine ⟨by simp, .inl ⟨_, _, rfl, run_takeDeferred HK.out, ?_⟩⟩
    refine ⟨_, results_tmp rfl _ _ _, v, rfl, ?_, HBW.out.trans (belowK_b (w := w) (Nat.le_refl _) W D _ _ (by omega) HK.out rfl rfl)⟩
    have := ownsRow_putObj hrow (.deferred none) HK.out rfl
    rwa [List.length_map, hlz] at this
  case stop =>
    rintro D c pre W _ _ h _
    exact h.elim

end Go.Proofs.Ytodlpofpeoiedaa
