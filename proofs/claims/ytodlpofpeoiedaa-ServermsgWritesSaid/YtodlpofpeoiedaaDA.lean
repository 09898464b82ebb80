/-
  servermsg's writer: a strings.Builder within a struct, and the first error: check, WriteString, done.
-/
import Derived.Test.YtodlpofpeoiedaaML
namespace Go.Proofs.Ytodlpofpeoiedaa
open Go.RowKit Go.Shelf Go.Sort

theorem b_lies128 : liesAt Try.prog Try.prog.depth 128 (3 / Try.prog.cellsOf 128) 0 116 1 = true := by kernel_rfl

/-- A writer of the call's own: the bytes l, the first error. -/
def IsW (B b : Nat) (l : List UInt8) (er : Int) (w : World) : Prop :=
  ∃ p v, (p = .pointer none ∨ p = .pointer (some ⟨b, 0, none⟩)) ∧ B ≤ b ∧ w.heap[b]? = some (.cells #[p, v, .int .i64 er] 128 (0, 0)) ∧ w.ownsRowF B 5 1 v l.length (Lib.byteCells l) ∧ v.ownBlock ≠ some b ∧ (l = [] → v = .slice none 0 0)

/-- What a writer's methods keep. -/
def WKeep (B b : Nat) (w w' : World) : Prop := Below B w w' ∧ Lib.OthersKept 5 (some b) w w'
theorem WKeep.refl (B b : Nat) (w : World) : WKeep B b w w := ⟨Below.refl _ _, Lib.OthersKept.refl _ _ _⟩
theorem WKeep.trans {B b : Nat} {x y z : World} (h : WKeep B b x y) (k : WKeep B b y z) : WKeep B b x z := ⟨h.1.trans k.1, h.2.trans k.2⟩
theorem WKeep.of {B b : Nat} {w w' : World} (h : Below w.heap.size w w') (hB : B ≤ w.heap.size) : WKeep B b w w' :=
  ⟨h.mono hB, fun k _ hk _ _ => (h.block k (Array.getElem?_eq_some_iff.1 hk).1).trans hk⟩
theorem WKeep.blk {B b k t : Nat} {C : Array Value} {w w' : World} (h : WKeep B b w w') (hk : Blk k t C w) (hb : k ≠ b) (ht : t ≠ 5) : Blk k t C w' :=
  h.2 k _ hk (by simpa using hb) (fun _ _ e => by cases e; exact ht rfl)
theorem WKeep.alloc {B b : Nat} {w w' : World} (h : WKeep B b w w') (hB : B ≤ w'.heap.size) (o : Obj) : WKeep B b w (w'.alloc o) := h.trans (WKeep.of ((Below.refl _ _).alloc (Nat.le_refl _) o) hB)

theorem IsW.fresh (B : Nat) (w : World) (hB : B ≤ w.heap.size) : IsW B w.heap.size [] 0 (w.alloc (.cells #[.pointer none, .slice none 0 0, .int .i64 0] 128)) :=
  ⟨_, _, .inl rfl, hB, World.alloc_heap_new w _, World.ownsRowF_nil _ _ _ _, by simp [Value.ownBlock], fun _ => rfl⟩

theorem IsW.lt {B b : Nat} {l : List UInt8} {er : Int} {w : World} (h : IsW B b l er w) : b < w.heap.size := by
  obtain ⟨p, v, _, _, hb, _⟩ := h
  exact (Array.getElem?_eq_some_iff.1 hb).1

theorem IsW.below {B b : Nat} {l : List UInt8} {er : Int} {w w' : World} (h : IsW B b l er w) (hb : Below w.heap.size w w') : IsW B b l er w' := by
  have hlt := h.lt
  obtain ⟨p, v, hp, hB, hh, ho, hne, h0⟩ := h
  exact ⟨p, v, hp, hB, (hb.block b hlt).trans hh, ho.kept (row := none) ⟨hb.os, hb.tape, hb.output, hb.size, fun k hk _ => hb.block k hk⟩ (by cases hv : v.ownBlock <;> simp), hne, h0⟩

theorem IsW.err {B b : Nat} {l : List UInt8} {er : Int} {w : World} (h : IsW B b l er w) : w.cell? ⟨b, 2, none⟩ = some (.int .i64 er) ∧ w.frozen? ⟨b, 2, none⟩ = false := by
  obtain ⟨p, v, _, _, hh, _⟩ := h
  exact ⟨by rw [Lib.cell_of_heap hh]; rfl, Lib.frozen_of_heap hh 2⟩

/-- A store of the error. -/
theorem IsW.setErr {B b : Nat} {l : List UInt8} {er : Int} {w : World} (h : IsW B b l er w) (e2 : Int) : IsW B b l e2 (w.setCell ⟨b, 2, none⟩ (.int .i64 e2)) ∧ WKeep B b w (w.setCell ⟨b, 2, none⟩ (.int .i64 e2)) := by
  obtain ⟨p, v, hp, hB, hh, ho, hne, h0⟩ := h
  refine ⟨⟨p, v, hp, hB, ?_, ?_, hne, h0⟩, (Below.refl B w).setCell (p := ⟨b, 2, none⟩) hB _, (Lib.OthersKept.refl _ _ w).setCell ⟨b, 2, none⟩ rfl _⟩
  · simp [World.setCell, Array.getElem?_modify, hh]
  · exact ho.kept (row := some b) ⟨rfl, rfl, rfl, by simp [World.setCell], fun k _ hk => Below.heap_setCell _ _ _ _ (fun e => hk (by simp [e]))⟩ (.inr hne)

set_option maxHeartbeats 1000000 in
set_option maxRecDepth 100000 in
theorem wcheck_fresh (b : Nat) (w : World) (h0 : w.cell? ⟨b, 0, none⟩ = some (.pointer none)) (hsh : w.shape? b = some (128, 3)) (hfz : w.frozen? ⟨b, 0, none⟩ = false) :
    Calls Try.prog 135 #[.pointer (some ⟨b, 0, none⟩)] w fun e w' => e = .returned (.tuple #[]) ∧ w' = w.setCell ⟨b, 0, none⟩ (.pointer (some ⟨b, 0, none⟩)) := by
  obtain ⟨j, hj, hjs⟩ := Option.map_eq_some_iff.1 b_info116
  go_enter Try.func135, Try.ntmps135
  go_wp2
  rw [Lib.run_to_unsafe w ⟨b, 0, none⟩ b_u113 b_u177 hj (by rw [hjs]; decide) hsh (Nat.zero_lt_succ 2)]
  simp only [Result.andThen]
  rw [Oper.upon_value]
  go_wp2
  rw [run_callFunc_extern Try.func145 (by kernel_rfl) (by kernel_rfl) (by kernel_rfl) (e := Extern.AbiNoEscape.same) (by kernel_rfl)]
  rw [Lib.run_noEscape]
  simp only [Result.andThen]
  rw [Oper.upon_value]
  go_wp2
  rw [Lib.run_from_unsafe w ⟨b, 0, none⟩ b_u177 b_u113 hj hsh b_lies128]
  simp only [Result.andThen]
  rw [Oper.upon_value]
  go_wp2
  go_end0
  exact ⟨rfl, rfl⟩

theorem wcheck_any (B b : Nat) (l : List UInt8) (er : Int) (w : World) (h : IsW B b l er w) :
    Calls Try.prog 135 #[.pointer (some ⟨b, 0, none⟩)] w fun e w' => e = .returned (.tuple #[]) ∧
      ((∃ v, B ≤ b ∧ w'.heap[b]? = some (.cells #[.pointer (some ⟨b, 0, none⟩), v, .int .i64 er] 128 (0, 0)) ∧ w'.ownsRowF B 5 1 v l.length (Lib.byteCells l) ∧ v.ownBlock ≠ some b ∧ (l = [] → v = .slice none 0 0)) ∧ WKeep B b w w') := by
  obtain ⟨p, v, hp, hB, hb, ho, hne, h0⟩ := h
  rcases hp with rfl | rfl
  · refine (wcheck_fresh b w (by rw [Lib.cell_of_heap hb]; rfl) (by simp [World.shape?, hb]) (Lib.frozen_of_heap hb 0)).mono ?_
    rintro e w' ⟨rfl, rfl⟩
    refine ⟨rfl, ⟨v, hB, ?_, ?_, hne, h0⟩, (Below.refl B w).setCell (p := ⟨b, 0, none⟩) hB _, (Lib.OthersKept.refl _ _ w).setCell ⟨b, 0, none⟩ rfl _⟩
    · simp [World.setCell, Array.getElem?_modify, hb]
    · exact ho.kept (row := some b) ⟨rfl, rfl, rfl, by simp [World.setCell], fun k _ hk => Below.heap_setCell _ _ _ _ (fun e => hk (by simp [e]))⟩ (.inr hne)
  · refine (check_used b w (by rw [Lib.cell_of_heap hb]; rfl)).mono ?_
    rintro e w' ⟨rfl, rfl⟩
    exact ⟨rfl, ⟨v, hB, hb, ho, hne, h0⟩, WKeep.refl _ _ _⟩

set_option maxHeartbeats 2000000 in
set_option maxRecDepth 100000 in
/-- (*strings.Builder).WriteString, of a writer's builder. -/
theorem wwrite_any (B b : Nat) (l : List UInt8) (er : Int) (s : ByteArray) (w : World) (h : IsW B b l er w) (hlen : l.length + s.size ≤ 140737488355328) (hBw : B ≤ w.heap.size) :
    Calls Try.prog 88 #[.pointer (some ⟨b, 0, none⟩), .string s] w fun e w' => e = .returned (.tuple #[.int .i64 s.size, .nilIface]) ∧ (IsW B b (l ++ s.data.toList) er w' ∧ WKeep B b w w') := by
  obtain ⟨i0, hi, hz0, hz1, hz2⟩ := info_parts b_info5
  go_enter Try.func88, Try.ntmps88
  go_wp2_with (go_at_call 135; refine (wcheck_any B b l er _ h).mono ?_)
  rintro e w1 ⟨rfl, h1, hk1⟩
  obtain ⟨v, hB, hbk, hown, hne, h0⟩ := h1
  have H0 := hide h0
  have HK1 := hide hk1
  have hz := hk1.1.size
  clear h0 hk1
  have c0 : w1.cell? ⟨b, 0, none⟩ = some (.pointer (some ⟨b, 0, none⟩)) := by rw [Lib.cell_of_heap hbk]; rfl
  have c1 : w1.cell? ⟨b, 1, none⟩ = some v := by rw [Lib.cell_of_heap hbk]; rfl
  go_wp2_with (at_builtin; refine Lib.wpList_append_own_stringF _ rfl _ _ 114 9 rfl B 5 i0 b_u114 b_u9 hi hz0 hz1 hz2 _ _ _ rfl hown s rfl ?c3 ?c4 ?c5 ?_)
  case c3 => unfold maxLen; omega
  case c4 => omega
  case c5 => omega
  intro v' w2 hown' hgrow hnil
  have HN := hide hnil
  clear hnil
  have hlt : b < w1.heap.size := (Array.getElem?_eq_some_iff.1 hbk).1
  have hb2 : w2.heap[b]? = some (.cells #[.pointer (some ⟨b, 0, none⟩), v, .int .i64 er] 128 (0, 0)) := by
    rw [hgrow.block b hlt (fun e => hne e.symm)]
    exact hbk
  have d0 : w2.cell? ⟨b, 0, none⟩ = some (.pointer (some ⟨b, 0, none⟩)) := by rw [Lib.cell_of_heap hb2]; rfl
  have d1 : w2.cell? ⟨b, 1, none⟩ = some v := by rw [Lib.cell_of_heap hb2]; rfl
  have f1 : w2.frozen? ⟨b, 1, none⟩ = false := Lib.frozen_of_heap hb2 1
  obtain ⟨ao, n', cap, rfl⟩ : ∃ ao n' cap, v' = .slice ao n' cap := by
    rcases hown'.2 with ⟨hv, _⟩ | ⟨g, cap, cur, fz, hv, _⟩
    · exact ⟨_, _, _, hv⟩
    · exact ⟨_, _, _, hv⟩
  have hne2 := Lib.ownBlock_neF hown' hb2 (by decide)
  go_wp2
  go_ret2
  refine ⟨rfl, ⟨_, .slice ao n' cap, .inr rfl, hB, ?_, ?_, hne2, ?_⟩, ?_, (HK1.out.2.grown hgrow (Lib.ownsRowF_kind hown)).setCell ⟨b, 1, none⟩ rfl _⟩
  · simp [World.setCell, Array.getElem?_modify, hb2]
  · have e1 : (l ++ s.data.toList).length = l.length + s.size := by rw [List.length_append, Array.length_toList]; rfl
    rw [e1, Lib.byteCells_append]
    exact hown'.kept (row := some b) ⟨rfl, rfl, rfl, by simp [World.setCell], fun k _ hk => Below.heap_setCell _ _ _ _ (fun e => hk (by simp [e]))⟩ (.inr hne2)
  · intro e
    obtain ⟨e1, e2⟩ := List.append_eq_nil_iff.1 e
    refine HN.out.2 ⟨H0.out e1, ?_⟩
    have e3 : s.data = #[] := by simpa using e2
    exact congrArg ByteArray.mk e3
  · exact (HK1.out.1.grown hgrow (by omega) (fun k hk => (hown.lt k hk).1)).setCell (p := ⟨b, 1, none⟩) hB _

set_option maxHeartbeats 1000000 in
set_option maxRecDepth 100000 in
theorem wstring_some (B b : Nat) (l : List UInt8) (er : Int) (w : World) (h : IsW B b l er w) (h0 : l ≠ []) :
    Calls Try.prog 89 #[.pointer (some ⟨b, 0, none⟩)] w fun e w' => e = .returned (.string ⟨l.toArray⟩) ∧ WKeep B b w w' := by
  obtain ⟨p, v, _, hB, hbk, hown, hne, _⟩ := h
  have hl0 : l.length ≠ 0 := by simpa using h0
  obtain ⟨g, cap, cur, fz, rfl, hbg, hg, hfz, hnc, hcm, hcs, htake⟩ : ∃ g cap cur fz, v = .slice (some ⟨g, 0, none⟩) l.length cap ∧ B ≤ g ∧ w.heap[g]? = some (.cells cur 5 fz) ∧ fz.2 ≤ l.length * 1 ∧ l.length ≤ cap ∧ cap ≤ maxLen ∧ cur.size = cap * 1 ∧ cur.toList.take (l.length * 1) = Lib.byteCells l := by
    rcases hown.2 with ⟨_, hz⟩ | ⟨g, cap, cur, fz, hv, r⟩
    · exact absurd hz hl0
    · exact ⟨g, cap, cur, fz, hv, r⟩
  have c1 : w.drew.cell? ⟨b, 1, none⟩ = some (.slice (some ⟨g, 0, none⟩) l.length cap) := by
    have : w.drew.heap[b]? = some (.cells #[p, .slice (some ⟨g, 0, none⟩) l.length cap, .int .i64 er] 128 (0, 0)) := hbk
    rw [Lib.cell_of_heap this]; rfl
  have hSD : (Builtin.unsafeSliceData_ #[114] 167 #[.slice (some ⟨g, 0, none⟩) l.length cap]).run Try.prog w.drew = .ok (.pointer (some ⟨g, 0, none⟩)) w.drew :=
    Lib.run_unsafeSliceData_row _ _ _ _ _ _ (by omega)
  have hUS : (Builtin.unsafeString_ #[167, 3] 9 #[.pointer (some ⟨g, 0, none⟩), .int .i64 l.length]).run Try.prog w.drew = .ok (.string ⟨l.toArray⟩) (w.drew.freeze ⟨g, 0, none⟩ l.length) := by
    refine Lib.run_unsafeString_row w.drew 167 3 9 5 b_u167 b_cells5 g cur.size (by have hg' : w.drew.heap[g]? = some (.cells cur 5 fz) := hg; simp [World.shape?, hg']) l h0 (by omega) (by unfold maxLen at hcm; omega) ?_
    intro j x hx
    have := hown.cells (g := g) rfl j (.int .u8 x.toNat) (by simp [Lib.byteCells, hx])
    exact this
  go_enter Try.func89, Try.ntmps89
  go_wp2
  go_region
  all_goals (go_wp2; go_ret; exact ⟨rfl, Lib.below_freeze (Below.drew (Below.refl B w)) (p := ⟨g, 0, none⟩) hbg _, ((Lib.OthersKept.refl _ _ w).drew).freeze ⟨g, 0, none⟩ _ ⟨cur, fz, hg⟩⟩)

set_option maxHeartbeats 1000000 in
set_option maxRecDepth 100000 in
theorem wstring_nil (B b : Nat) (p : Value) (er : Int) (w : World) (hbk : w.heap[b]? = some (.cells #[p, .slice none 0 0, .int .i64 er] 128 (0, 0))) :
    Calls Try.prog 89 #[.pointer (some ⟨b, 0, none⟩)] w fun e w' => e = .returned (.string ⟨#[]⟩) ∧ WKeep B b w w' := by
  have hUS : ∀ (W : World) (q : Option Addr), (Builtin.unsafeString_ #[167, 3] 9 #[.pointer q, .int .i64 0]).run Try.prog W = .ok (.string .empty) W := fun W q => Lib.run_unsafeString_none W _ _ _ q
  have c1 : w.drew.cell? ⟨b, 1, none⟩ = some (.slice none 0 0) := by
    have : w.drew.heap[b]? = some (.cells #[p, .slice none 0 0, .int .i64 er] 128 (0, 0)) := hbk
    rw [Lib.cell_of_heap this]; rfl
  have hSD : (Builtin.unsafeSliceData_ #[114] 167 #[.slice none 0 0]).run Try.prog w.drew = .ok (.pointer none) w.drew := rfl
  go_enter Try.func89, Try.ntmps89
  go_wp2
  go_region
  all_goals (go_wp2; go_ret; exact ⟨rfl, Below.drew (Below.refl B w), (Lib.OthersKept.refl _ _ w).drew⟩)

/-- (*strings.Builder).String, of a writer's builder. -/
theorem wstring_any (B b : Nat) (l : List UInt8) (er : Int) (w : World) (h : IsW B b l er w) :
    Calls Try.prog 89 #[.pointer (some ⟨b, 0, none⟩)] w fun e w' => e = .returned (.string ⟨l.toArray⟩) ∧ WKeep B b w w' := by
  by_cases h0 : l = []
  · subst h0
    obtain ⟨p, v, _, hB, hbk, _, _, hz⟩ := h
    obtain rfl := hz rfl
    exact wstring_nil B b p er w hbk
  · exact wstring_some B b l er w h h0

/-- The first error. -/
def erAnd (er : Int) (ok : Bool) (e : Int) : Int := if !ok && er == 0 then e else er

set_option maxHeartbeats 1000000 in
set_option maxRecDepth 100000 in
/-- (*writer).check. -/
theorem check98_any (B b : Nat) (l : List UInt8) (er e2 : Int) (ok : Bool) (w : World) (h : IsW B b l er w) :
    Calls Try.prog 98 #[.pointer (some ⟨b, 0, none⟩), .bool ok, .int .i64 e2] w fun e w' => e = .returned (.tuple #[]) ∧ (IsW B b l (erAnd er ok e2) w' ∧ WKeep B b w w') := by
  obtain ⟨c2, f2⟩ := h.err
  have H := hide h
  clear h
  cases ok with
  | true =>
    have e : erAnd er true e2 = er := by simp [erAnd]
    rw [e]
    go_enter Try.func98, Try.ntmps98
    go_wp2_with fail
    go_end0
    exact ⟨rfl, H.out, WKeep.refl _ _ _⟩
  | false =>
    by_cases he : er = 0
    · subst he
      have e : erAnd 0 false e2 = e2 := by simp [erAnd]
      rw [e]
      go_enter Try.func98, Try.ntmps98
      go_wp2_with fail
      go_end0
      exact ⟨rfl, H.out.setErr e2⟩
    · have e : erAnd er false e2 = er := by simp [erAnd, he]
      have hb : (er == 0) = false := by simpa using he
      rw [e]
      go_enter Try.func98, Try.ntmps98
      go_wp2_with fail
      go_end0
      exact ⟨rfl, H.out, WKeep.refl _ _ _⟩

set_option maxHeartbeats 1000000 in
set_option maxRecDepth 100000 in
/-- (*writer).done, where all fits. -/
theorem done_ok (B b : Nat) (l : List UInt8) (w : World) (h : IsW B b l 0 w) :
    Calls Try.prog 100 #[.pointer (some ⟨b, 0, none⟩)] w fun e w' => e = .returned (.tuple #[.string ⟨l.toArray⟩, .int .i64 0]) ∧ WKeep B b w w' := by
  obtain ⟨c2, f2⟩ := h.err
  have H := hide h
  clear h
  go_enter Try.func100, Try.ntmps100
  go_wp2_with fail
  refine (wstring_any B b l 0 _ H.out).mono ?_
  rintro e w1 ⟨rfl, hk⟩
  have HK := hide hk
  clear hk
  go_wp2_with fail
  go_ret2
  exact ⟨rfl, HK.out⟩

set_option maxHeartbeats 1000000 in
set_option maxRecDepth 100000 in
theorem done_no (B b : Nat) (l : List UInt8) (er : Int) (w : World) (h : IsW B b l er w) (he : er ≠ 0) :
    Calls Try.prog 100 #[.pointer (some ⟨b, 0, none⟩)] w fun e w' => e = .returned (.tuple #[.string ⟨#[]⟩, .int .i64 er]) ∧ WKeep B b w w' := by
  obtain ⟨c2, f2⟩ := h.err
  have hb : (er != 0) = true := by simpa using he
  have c3 : w.drew.cell? ⟨b, 2, none⟩ = some (.int .i64 er) := c2
  clear h
  go_enter Try.func100, Try.ntmps100
  go_wp2_with fail
  go_region
  all_goals (go_wp2_with fail; go_ret2; exact ⟨rfl, Below.drew (Below.refl B w), (Lib.OthersKept.refl _ _ w).drew⟩)

/-- What a writer's text is, and its error. -/
def doneS (l : List UInt8) (er : Int) : ByteArray := if er = 0 then ⟨l.toArray⟩ else ⟨#[]⟩

/-- (*writer).done. -/
theorem done_any (B b : Nat) (l : List UInt8) (er : Int) (w : World) (h : IsW B b l er w) :
    Calls Try.prog 100 #[.pointer (some ⟨b, 0, none⟩)] w fun e w' => e = .returned (.tuple #[.string (doneS l er), .int .i64 er]) ∧ WKeep B b w w' := by
  by_cases he : er = 0
  · subst he
    exact done_ok B b l w h
  · have e : doneS l er = ⟨#[]⟩ := if_neg he
    rw [e]
    exact done_no B b l er w h he

end Go.Proofs.Ytodlpofpeoiedaa
