/-
  plain.Raw: colours as they are.
-/
import Derived.Test.YtodlpofpeoiedaaCC
import Derived.Test.YtodlpofpeoiedaaAH0
namespace Go.Proofs.Ytodlpofpeoiedaa
open Go.RowKit Go.Shelf Go.Sort

attribute [local go_sem] Oper.semAt_some

/-- Values' bytes, one behind the other. -/
def putsL (f : Fmt) (vs : List Int) : List UInt8 := vs.flatMap fun v => (putV f v).data.toList
theorem putsL_snoc (f : Fmt) (vs : List Int) (v : Int) : putsL f (vs ++ [v]) = putsL f vs ++ (putV f v).data.toList := by simp [putsL]
theorem putV_size (f : Fmt) (v : Int) : (putV f v).size = sizeN f := by rw [putV_eq, ordB_len]
theorem putsL_length (f : Fmt) (vs : List Int) : (putsL f vs).length = vs.length * sizeN f := by
  induction vs with
  | nil => simp [putsL]
  | cons v vs ih =>
    have e : putsL f (v :: vs) = (putV f v).data.toList ++ putsL f vs := rfl
    have z : (putV f v).data.toList.length = sizeN f := by rw [Array.length_toList]; exact putV_size f v
    rw [e, List.length_append, ih, z, List.length_cons, Nat.add_mul]
    omega

/-- Colours' bytes. -/
def rawB (f : Fmt) (zs : List Int) : ByteArray := ⟨(putsL f (zs.map (valA f))).toArray⟩

/-- What stands between two rounds: the builder holds the bytes; the format lies in its box. -/
def RawI (B Bf Bv b : Nat) (f : Fmt) (w : World) (pre : List Int) (W : World) : Prop :=
  IsB B b (putsL f pre) W ∧ Blk Bf 23 (fmtC f) W ∧ Blk Bv 23 (fmtC f) W ∧ Below B w W

theorem rawI_from (B Bf Bv b D : Nat) (f : Fmt) (w : World) (hBf : Bf < D) (hBv : Bv < D) (hBD : B ≤ D) (hw : B ≤ w.heap.size) : OwnFrom D (RawI B Bf Bv b f w) := by
  rintro s X Y row ⟨h1, h2, h4, h3⟩ hg hr
  refine ⟨h1.kept hg fun r e => (hr r e).2, ?_, ?_, h3.grown hg (Nat.le_trans hw h3.size) fun k e => Nat.le_trans hBD (hr k e).1⟩
  · have hlt : Bf < X.heap.size := (Array.getElem?_eq_some_iff.1 h2).1
    exact (hg.block Bf hlt fun e => by have := (hr Bf e.symm).1; omega).trans h2
  · have hlt : Bv < X.heap.size := (Array.getElem?_eq_some_iff.1 h4).1
    exact (hg.block Bv hlt fun e => by have := (hr Bv e.symm).1; omega).trans h4

set_option maxHeartbeats 2000000 in
set_option maxRecDepth 100000 in
theorem raw_walk (f : Fmt) (a : Option Addr) (len cap : Nat) (zs : List Int) (w : World) (hf : f.fit) (hlen : len ≤ 1099511627776) (hI : Hid (IntsIn w.heap.size w a len zs))
    (K36 : Hid (∀ v w, Calls Try.prog 36 #[fmtV f, .int .i64 v] w fun e w' => e = .returned (.string (putV f v)) ∧ Below w.heap.size w w')) :
    Calls Try.prog 25 #[fmtV f, .slice a len cap] w fun e w' => e = .returned (.string (rawB f zs)) ∧ Below w.heap.size w w' := by
  have F0 := hide (Blk.new w 23 (fmtC f))
  have B0 := hide ((Below.refl w.heap.size w).alloc (Nat.le_refl _) (.cells (fmtC f) 23))
  have Z0 := hide (World.size_alloc w (.cells (fmtC f) 23))
  refine (callsIn_wide (n := 5)).1 ?_
  refine callsIn_of_wp_marks Try.func25 rfl trivial ?_ rfl
  simp only [Try.ntmps25, List.size_toArray, List.length_cons, List.length_nil, Nat.reduceAdd, Nat.reduceSub, Array.replicate_succ, Array.replicate_zero, List.push_toArray, List.append_toArray, List.nil_append, List.cons_append]
  gi_wp2_with fail
  refine ⟨trivial, ?_⟩
  gi_at_call 87
  refine (callsIn_wide.2 (values_mk f a len cap _)).mono ?_
  rintro e w1 ⟨rfl, hz1, hF1, hc1, hb1⟩
  have S2 : ((w.alloc (.cells (fmtC f) 23)).alloc (.cells #[.pointer none, .slice none 0 0] 116)).heap.size = w.heap.size + 2 := by simp
  have I1 : Hid (IsB w.heap.size (w.heap.size + 1) [] w1) := hide (by have := (IsB.fresh w.heap.size (w.alloc (.cells (fmtC f) 23)) (by simp)).below hb1; rwa [World.size_alloc] at this)
  have G1 : Hid (Blk w.heap.size 23 (fmtC f) w1) := by
    have := hide ((hb1.block w.heap.size (by rw [S2]; omega)).trans ((Below.heap_alloc (w.alloc (.cells (fmtC f) 23)) (.cells #[.pointer none, .slice none 0 0] 116) w.heap.size (by simp)).trans F0.out))
    exact this
  have B1 : Hid (Below w.heap.size w w1) := hide ((B0.out.alloc (by simp) _).trans (hb1.mono (by rw [S2]; omega)))
  rw [S2] at hz1 hF1 hc1 ⊢
  have hz := hz1
  have HF := hide hF1
  have HC := hide hc1
  clear hF1 hc1 hb1 S2 hz1 F0 B0 Z0
  gi_wp2_with fail
  refine wpIn_rangeFunc_ownG rfl (by omega) (gf := 134) (lb := #[.pointer (some ⟨w.heap.size + 2 + 1, 0, none⟩), .pointer (some ⟨w.heap.size + 2, 0, none⟩)]) rfl trivial (enters_of Try.func134 (by kernel_rfl) rfl)
    (values_stops (5 - 1) (by omega) f hf (w.heap.size + 2 + 1) (w.heap.size + 2) w.heap.size len cap a zs (by omega) w1 (by omega) (by omega) HF.out HC.out (hI.out.below B1.out))
    (fun h k => h.trans k) (fun W l o o' hl ho hc hw => ⟨belowK_b (w := w1) (by omega) W l o o' hl ho hc hw, World.putObj_heap_other (by omega)⟩) (Below.refl _ _) (fun _ => rfl)
    (RawI w.heap.size w.heap.size (w.heap.size + 2) (w.heap.size + 1) f w) (fun _ _ _ => False)
    (rawI_from _ _ _ _ _ f w (by omega) (by omega) (by omega) (by omega)) (fun _ _ _ _ _ hs _ _ => hs)
    ⟨I1.out, G1.out, HF.out, B1.out⟩
    (fun x => { tmps := #[fmtV f, .slice a len cap, .pointer (some ⟨w.heap.size, 0, none⟩), undef, .string ⟨#[]⟩, .pointer (some ⟨w.heap.size + 1, 0, none⟩), .int .i64 x, fmtV f, .slice a len cap, .func (.func 134) #[] #[.pointer (some ⟨w.heap.size + 2 + 1, 0, none⟩), .pointer (some ⟨w.heap.size + 2, 0, none⟩)], .int .i64 x, undef, undef, undef, undef, undef], defers := [] }) ?assign ?body ?done ?stop
  case assign =>
    intro l x W K hK
    gi_wp2
    exact hK
  case body =>
    rintro l pre x W ⟨hIB, hF, hV, hB⟩ hlt
    have f0 : W.cell? ⟨w.heap.size, 0, none⟩ = some (.int .i64 f.bits) := hF.cell 0
    have f1 : W.cell? ⟨w.heap.size, 1, none⟩ = some (.int .i64 f.depth) := hF.cell 1
    have f2 : W.cell? ⟨w.heap.size, 2, none⟩ = some (.bool f.big) := hF.cell 2
    have f3 : W.cell? ⟨w.heap.size, 3, none⟩ = some (.bool f.tru) := hF.cell 3
    have f4 : W.cell? ⟨w.heap.size, 4, none⟩ = some (.int .i64 f.rm) := hF.cell 4
    have f5 : W.cell? ⟨w.heap.size, 5, none⟩ = some (.int .i64 f.gm) := hF.cell 5
    have f6 : W.cell? ⟨w.heap.size, 6, none⟩ = some (.int .i64 f.bm) := hF.cell 6
    have f7 : W.cell? ⟨w.heap.size, 7, none⟩ = some (.int .i64 f.rs) := hF.cell 7
    have f8 : W.cell? ⟨w.heap.size, 8, none⟩ = some (.int .i64 f.gs) := hF.cell 8
    have f9 : W.cell? ⟨w.heap.size, 9, none⟩ = some (.int .i64 f.bs) := hF.cell 9
    have HIB := hide hIB
    have HFW := hide hF
    have HVW := hide hV
    have HBW := hide hB
    have HL : Hid ((putsL f pre).length + (putV f x).size ≤ 140737488355328) := hide (by
      have h4 := size_le f
      have : pre.length * sizeN f ≤ 1099511627776 * 4 := Nat.mul_le_mul (by omega) h4
      rw [putsL_length, putV_size]
      omega)
    clear hIB hF hV hB
    gi_wp2_with fail
    refine ⟨trivial, ?_⟩
    gi_at_call 36
    refine (CallsIn.inRound l (callsIn_wide.2 (K36.out x _))).mono ?_
    rintro e w2 ⟨rfl, hb2⟩
    have HB2 := hide hb2
    have hs2 : w.heap.size ≤ w2.heap.size := Nat.le_trans HBW.out.size (Nat.le_trans HB2.out.size (Nat.le_refl _))
    clear hb2
    gi_wp2_with fail
    refine ⟨trivial, ?_⟩
    gi_at_call 88
    refine (CallsIn.inRound l (callsIn_wide.2 (bwrite_any w.heap.size (w.heap.size + 1) (putsL f pre) (putV f x) _ (HIB.out.below HB2.out) HL.out (by omega)))).mono ?_
    rintro e w3 ⟨rfl, hI3, hb3, hk3⟩
    have HI3 := hide hI3
    have HB3 := hide hb3
    have HK3 := hide hk3
    clear hI3 hb3 hk3
    gi_wp2_with fail
    have hlt1 : w.heap.size < W.heap.size := (Array.getElem?_eq_some_iff.1 HFW.out).1
    have keep : ∀ (k : Nat) (o : Obj), k ≠ w.heap.size + 1 → (∀ c fz, o ≠ .cells c 5 fz) → W.heap[k]? = some o → w3.heap[k]? = some o := fun k o hk ho hW =>
      HK3.out k o ((HB2.out.block k (Array.getElem?_eq_some_iff.1 hW).1).trans hW) (by simpa using hk) ho
    have hB3 : Below w.heap.size W w3 := (HB2.out.mono HBW.out.size).trans HB3.out
    refine ⟨⟨hB3.size, fun k o hk hW hc => keep k o (by omega) (fun c fz e => by rw [e] at hc; cases hc) hW⟩, ⟨hB3, ?_⟩, ⟨?_, ?_, ?_, HBW.out.trans hB3⟩⟩
    · exact (keep _ _ (by omega) (fun c fz e => by cases e) HVW.out).trans HVW.out.symm
    · rw [putsL_snoc]
      exact HI3.out
    · exact keep _ _ (by omega) (fun c fz e => by cases e) HFW.out
    · exact keep _ _ (by omega) (fun c fz e => by cases e) HVW.out
  case done =>
    rintro D ys W hD rfl ⟨hIB, hF, _, hB⟩ hK
    have HIB := hide hIB
    have HBW := hide hB
    have HK := hide hK
    clear hIB hF hB hK
    gi_wp2_with fail
    refine ⟨trivial, ?_⟩
    gi_at_call 89
    refine (callsIn_wide.2 (bstring_any w.heap.size (w.heap.size + 1) _ _ HIB.out)).mono ?_
    rintro e w2 ⟨rfl, hb2, hk2⟩
    have HB2 := hide hb2
    have HK2 := hide (hk2 D _ HK.out (by simp; omega) (fun _ _ e => by cases e))
    clear hb2 hk2
    gi_wp2_with fail
    refine ⟨by simp, .inl ⟨_, _, rfl, run_takeDeferred HK2.out, ?_⟩⟩
    exact ⟨_, results_tmp rfl _ _ _, rfl, (HBW.out.trans HB2.out).trans (belowK_b (w := w) (Nat.le_refl _) w2 D _ _ (by omega) HK2.out rfl rfl)⟩
  case stop =>
    rintro D c pre W _ _ h _
    exact h.elim

/-- plain.Raw: colours as they are. -/
theorem raw_any (f : Fmt) (a : Option Addr) (len cap : Nat) (zs : List Int) (w : World) (hf : f.fit) (hlen : len ≤ 1099511627776) (hI : IntsIn w.heap.size w a len zs) :
    Calls Try.prog 25 #[fmtV f, .slice a len cap] w fun e w' => e = .returned (.string (rawB f zs)) ∧ Below w.heap.size w w' :=
  raw_walk f a len cap zs w hf hlen hI (fun v w => put36_any f v w hf)

end Go.Proofs.Ytodlpofpeoiedaa
