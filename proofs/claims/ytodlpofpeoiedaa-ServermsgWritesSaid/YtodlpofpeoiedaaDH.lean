/-
  A region that draws its order, walked by a plan that may part where two operations are ready at once.
-/
import Derived.Test.YtodlpofpeoiedaaDG
namespace Go.Proofs.Ytodlpofpeoiedaa
open Go.RowKit

section
variable {P : Program} {md : Region.Mode} {ops : Array Oper} {Q : Exit → Act → World → Prop} {S : World → Prop} {ds : List Nat}

/-- A plan: quiet operations, forced ones, and places where either of two goes first. -/
inductive PT where
  | nil
  | q (i : Nat) (r : PT)
  | e (i : Nat) (r : PT)
  | two (i j : Nat) (a b : PT)

def PT.len : PT → Nat
  | .nil => 0
  | .q _ r => r.len + 1
  | .e _ r => r.len + 1
  | .two _ _ a _ => a.len + 1

def ptB (md : Region.Mode) (ops : Array Oper) (ds : List Nat) : PT → Array Bool → Bool
  | .nil, l => (Region.ready md ops l).isEmpty
  | .q i r, l => (Region.ready md ops l).contains i && Region.free md ops l i && Region.closedB md ops l && Region.lastB md ops l ds i && ptB md ops ds r (l.setIfInBounds i true)
  | .e i r, l => Region.ready md ops l == [i] && ptB md ops ds r (l.setIfInBounds i true)
  | .two i j a b, l => Region.ready md ops l == [i, j] && decide (a.len = b.len) && ptB md ops ds a (l.setIfInBounds i true) && ptB md ops ds b (l.setIfInBounds j true)

def wpPT (P : Program) (ops : Array Oper) (Q : Exit → Act → World → Prop) (S : World → Prop) (ds : List Nat) : PT → Act → World → Prop
  | .nil, a, w => Q .normal a w
  | .q i r, a, w => ∃ o v, ops[i]? = some o ∧ S w ∧ Tame P ops S o v a ∧ wpPT P ops Q S ds r (a.put o.dst v) w
  | .e i r, a, w => wpOp P ops Q i (fun a' w' => (i ∉ ds → S w') ∧ wpPT P ops Q S ds r a' w') a w
  | .two i j x y, a, w => wpOp P ops Q i (fun a' w' => (i ∉ ds → S w') ∧ wpPT P ops Q S ds x a' w') a w ∧ wpOp P ops Q j (fun a' w' => (j ∉ ds → S w') ∧ wpPT P ops Q S ds y a' w') a w

theorem wpPT_spec (hs : Region.noSelect ops = true) (hQ : ∀ c a d v w, Q (.panic c) (Act.put a d v) w → Q (.panic c) a w) :
    ∀ (r : PT) (l : Array Bool) (a : Act) (w : World), ptB md ops ds r l = true → wpPT P ops Q S ds r a w → wpAnyT P md ops Q S ds r.len l a w
  | .nil, l, a, w, hB, h => ⟨by simpa [ptB] using hB, h⟩
  | .q i r, l, a, w, hB, h => by
    simp only [ptB, Bool.and_eq_true] at hB
    obtain ⟨⟨⟨⟨h1, h2⟩, h3⟩, h4⟩, h5⟩ := hB
    obtain ⟨o, v, ho, hS, hy, hh⟩ := h
    exact wpAnyT_first ho (Region.noSelect_spec hs) (fun c a w => hQ c a _ _ w) ops.size r.len l a w (Region.free_spec ho h2) (Region.closedB_spec h3)
      (fun d hm hun => by have := List.all_eq_true.1 h4 d hm; rw [hun] at this; simpa using this) (by simpa using h1) hy hS (wpPT_spec hs hQ r _ _ _ h5 hh)
  | .e i r, l, a, w, hB, h => by
    simp only [ptB, Bool.and_eq_true, beq_iff_eq] at hB
    refine ⟨fun h0 => (by rw [hB.1] at h0; cases h0), fun j hj => ?_⟩
    rw [hB.1] at hj
    have hji : j = i := by simpa using hj
    subst hji
    exact wpOp_mono (fun a' w' hh => ⟨fun hd _ => hh.1 hd, wpPT_spec hs hQ r _ _ _ hB.2 hh.2⟩) h
  | .two i j x y, l, a, w, hB, h => by
    simp only [ptB, Bool.and_eq_true, beq_iff_eq, decide_eq_true_eq] at hB
    obtain ⟨⟨⟨h1, h2⟩, h3⟩, h4⟩ := hB
    refine ⟨fun h0 => (by rw [h1] at h0; cases h0), fun k hk => ?_⟩
    rw [h1] at hk
    have hk' : k = i ∨ k = j := by simpa using hk
    show wpOp P ops Q k (fun a' w' => (k ∉ ds → S w → S w') ∧ wpAnyT P md ops Q S ds x.len (l.setIfInBounds k true) a' w') a w
    rcases hk' with rfl | rfl
    · exact wpOp_mono (fun a' w' hh => ⟨fun hd _ => hh.1 hd, wpPT_spec hs hQ x _ _ _ h3 hh.2⟩) h.1
    · rw [h2]
      exact wpOp_mono (fun a' w' hh => ⟨fun hd _ => hh.1 hd, wpPT_spec hs hQ y _ _ _ h4 hh.2⟩) h.2

/-- A region that draws its order, walked in the order of such a plan. -/
theorem pt_region {id : Nat} {a : Act} {w : World} (p : PT) (S : World → Prop) (ds : List Nat) (hm : P.follows .mixedOrders = true)
    (hB : (Region.noSelect ops && decide (p.len = ops.size) && ptB .any ops ds p (Array.replicate ops.size false)) = true)
    (hQ : ∀ c a d v w, Q (.panic c) (Act.put a d v) w → Q (.panic c) a w) (h : wpPT P ops Q S ds p a w.drew) : (Code.region id ops true).wp P Q a w := by
  simp only [Bool.and_eq_true, decide_eq_true_eq] at hB
  obtain ⟨⟨h1, h2⟩, h3⟩ := hB
  refine wp_region_any hm (wpAny_of_T (S := S) (ds := ds) _ _ _ _ ?_)
  rw [← h2]
  rw [← h2] at h3
  exact wpPT_spec h1 hQ p _ _ _ h3 h

variable {i j : Nat} {o oj : Oper} {v : Value} {r x y : PT} {a a' : Act} {w : World} {N : Option Tmp}
theorem pt_v (ho : ops[i]? = some o) (hN : o.dst = N) (hS : S w) (hw : Region.wanted o (yielded ops a.tmps) = true) (hy : ∀ w, S w → (execOp a.eval o).run P w = .ok (.value v) w)
    (ha : a.put N v = a') (h : wpPT P ops Q S ds r a' w) : wpPT P ops Q S ds (.q i r) a w := by
  subst ha
  subst hN
  exact ⟨o, v, ho, hS, fun w hS => .inl ⟨hw, .inl (hy w hS)⟩, h⟩
theorem pt_e (ho : ops[i]? = some o) (hw : Region.wanted o (yielded ops a.tmps) = true)
    (h : ∀ K : Act → World → Prop, (∀ a' w', (i ∉ ds → S w') → wpPT P ops Q S ds r a' w' → K a' w') → Oper.wp P o a w K Q) : wpPT P ops Q S ds (.e i r) a w := by
  show wpOp P ops Q i _ a w
  unfold wpOp
  simp only [ho, hw, if_true]
  exact .inl (h _ (fun _ _ h1 h2 => ⟨h1, h2⟩))
theorem pt_two (ho : ops[i]? = some o) (hoj : ops[j]? = some oj) (hw : Region.wanted o (yielded ops a.tmps) = true) (hwj : Region.wanted oj (yielded ops a.tmps) = true)
    (h : ∀ K : Act → World → Prop, (∀ a' w', (i ∉ ds → S w') → wpPT P ops Q S ds x a' w' → K a' w') → Oper.wp P o a w K Q)
    (hj : ∀ K : Act → World → Prop, (∀ a' w', (j ∉ ds → S w') → wpPT P ops Q S ds y a' w' → K a' w') → Oper.wp P oj a w K Q) : wpPT P ops Q S ds (.two i j x y) a w := by
  refine ⟨?_, ?_⟩
  · show wpOp P ops Q i _ a w
    unfold wpOp
    simp only [ho, hw, if_true]
    exact .inl (h _ (fun _ _ h1 h2 => ⟨h1, h2⟩))
  · show wpOp P ops Q j _ a w
    unfold wpOp
    simp only [hoj, hwj, if_true]
    exact .inl (hj _ (fun _ _ h1 h2 => ⟨h1, h2⟩))
theorem pt_done (h : Q .normal a w) : wpPT P ops Q S ds .nil a w := h
end

end Go.Proofs.Ytodlpofpeoiedaa
