/-
  A format's sixteen bytes: format.Bytes and miradorref13.Bytes.
-/
import Derived.Test.YtodlpofpeoiedaaL
namespace Go.Proofs.Ytodlpofpeoiedaa
open Go.RowKit

def b2i (b : Bool) : Int := if b then 1 else 0

/-- What is written: how many bytes, and which number. -/
def fieldsF (f : Fmt) : List (Nat × Int) := [(1, f.bits), (1, f.depth), (1, b2i f.big), (1, b2i f.tru), (2, f.rm), (2, f.gm), (2, f.bm), (1, f.rs), (1, f.gs), (1, f.bs)]
def catF (l : List (Nat × Int)) : ByteArray := l.foldl (fun a p => a ++ beB p.1 p.2) ⟨#[]⟩
def allFit (l : List (Nat × Int)) : Bool := l.all fun p => putFits p.1 p.2
/-- A format's sixteen bytes, if they can be. -/
def bytesF (f : Fmt) : ByteArray := if allFit (fieldsF f) then catF (fieldsF f) ++ ⟨#[0, 0, 0]⟩ else ⟨#[]⟩

theorem catF_snoc (l : List (Nat × Int)) (p : Nat × Int) : catF (l ++ [p]) = catF l ++ beB p.1 p.2 := by simp [catF, List.foldl_append]
theorem allFit_snoc (l : List (Nat × Int)) (p : Nat × Int) : allFit (l ++ [p]) = (allFit l && putFits p.1 p.2) := by simp [allFit, List.all_append]
theorem catF_size (l : List (Nat × Int)) (h : ∀ p ∈ l, p.1 ≤ 2) : (catF l).size ≤ 2 * l.length := by
  revert h
  refine snoc_ind (P := fun l => (∀ p ∈ l, p.1 ≤ 2) → (catF l).size ≤ 2 * l.length) (fun _ => by simp [catF, ByteArray.size]) (fun l p ih h => ?_) l
  rw [catF_snoc, ByteArray.size_append, beB_size]
  have := ih fun q hq => h q (by simp [hq])
  have := h p (by simp)
  simp
  omega

/-- Field i: its bytes, its number. -/
def fsz (f : Fmt) (i : Nat) : Nat := ((fieldsF f).getD i (1, 0)).1
def fnn (f : Fmt) (i : Nat) : Int := ((fieldsF f).getD i (1, 0)).2

theorem fsz_12 (f : Fmt) (i : Nat) (h : i < 10) : fsz f i = 1 ∨ fsz f i = 2 := by
  have : i = 0 ∨ i = 1 ∨ i = 2 ∨ i = 3 ∨ i = 4 ∨ i = 5 ∨ i = 6 ∨ i = 7 ∨ i = 8 ∨ i = 9 := by omega
  rcases this with h | h | h | h | h | h | h | h | h | h <;> subst h <;> simp [fsz, fieldsF]

theorem fields_take (f : Fmt) (i : Nat) (h : i < 10) : (fieldsF f).take (i + 1) = (fieldsF f).take i ++ [(fsz f i, fnn f i)] := by
  have hl : i < (fieldsF f).length := h
  rw [List.take_succ_eq_append_getElem hl]
  simp only [fsz, fnn, List.getD_eq_getElem?_getD, List.getElem?_eq_getElem hl, Option.getD_some]

theorem fields_le (f : Fmt) (i : Nat) : (catF ((fieldsF f).take i)).size ≤ 20 := by
  have h := catF_size ((fieldsF f).take i) (fun p hp => by
    have := List.mem_of_mem_take hp
    simp [fieldsF] at this
    rcases this with h | h | h | h | h | h | h | h | h | h <;> subst h <;> simp)
  have h2 : ((fieldsF f).take i).length ≤ 10 := by rw [List.length_take]; exact Nat.min_le_right _ _
  omega

theorem fit_take (f : Fmt) (i : Nat) (h : allFit ((fieldsF f).take i) = false) : bytesF f = ⟨#[]⟩ := by
  have : allFit (fieldsF f) = false := by
    rw [← List.take_append_drop i (fieldsF f)]
    simp only [allFit, List.all_append, Bool.and_eq_false_iff] at h ⊢
    exact .inl h
  simp [bytesF, this]

abbrev arrF (a b x y rm gm bm rs gs bs : Int) : Value := .agg #[.int .i64 1, .int .i64 a, .int .i64 1, .int .i64 b, .int .i64 1, .int .i64 x, .int .i64 1, .int .i64 y, .int .i64 2, .int .i64 rm, .int .i64 2, .int .i64 gm, .int .i64 2, .int .i64 bm, .int .i64 1, .int .i64 rs, .int .i64 1, .int .i64 gs, .int .i64 1, .int .i64 bs]

theorem idxF (f : Fmt) (i : Nat) (h : i < 10) : ∀ w, (Instr.index 112 (arrF f.bits f.depth (b2i f.big) (b2i f.tru) f.rm f.gm f.bm f.rs f.gs f.bs) (.int .i64 i)).run Try.prog w = .ok (.agg #[.int .i64 (fsz f i), .int .i64 (fnn f i)]) w := by
  obtain ⟨a, b, c, d, rm, gm, bm, rs, gs, bs⟩ := f
  have : i = 0 ∨ i = 1 ∨ i = 2 ∨ i = 3 ∨ i = 4 ∨ i = 5 ∨ i = 6 ∨ i = 7 ∨ i = 8 ∨ i = 9 := by omega
  intro w
  rcases this with h | h | h | h | h | h | h | h | h | h <;> subst h <;> kernel_rfl

theorem put_yes (k : Nat) (hk : k = 1 ∨ k = 2 ∨ k = 4) (n : Int) (w : World) (h : putFits k n = true) :
    Calls Try.prog 83 #[.int .i64 k, .int .i64 n] w fun e w' => e = .returned (.tuple #[.string (beB k n), .int .i64 0]) ∧ Below w.heap.size w w' := by
  have := put_any k hk n w
  unfold putS putE at this
  rwa [if_pos h, if_pos h] at this
theorem put_no (k : Nat) (hk : k = 1 ∨ k = 2 ∨ k = 4) (n : Int) (w : World) (h : putFits k n = false) :
    Calls Try.prog 83 #[.int .i64 k, .int .i64 n] w fun e w' => e = .returned (.tuple #[.string ⟨#[]⟩, .int .i64 1]) ∧ Below w.heap.size w w' := by
  have := put_any k hk n w
  unfold putS putE at this
  rwa [if_neg (by simp [h]), if_neg (by simp [h])] at this

theorem bit_b2i (b : Bool) (w : World) : Calls Try.prog 82 #[.bool b] w fun e w' => e = .returned (.int .i64 (b2i b)) ∧ w' = w := (bit_any b w).mono fun _ _ ⟨h1, h2⟩ => ⟨h1, h2.symm⟩

attribute [local go_sem] beB_size

set_option maxHeartbeats 1600000 in
set_option maxRecDepth 100000 in
theorem fbytes_any (f : Fmt) (w : World) :
    Calls Try.prog 19 #[.agg #[.int .i64 f.bits, .int .i64 f.depth, .bool f.big, .bool f.tru, .int .i64 f.rm, .int .i64 f.gm, .int .i64 f.bm, .int .i64 f.rs, .int .i64 f.gs, .int .i64 f.bs]] w
      fun e w' => e = .returned (.string (bytesF f)) ∧ Below w.heap.size w w' := by
  go_enter Try.func19, Try.ntmps19
  go_wp2_with fail
  go_quiet ((go_at_call 82; exact Calls.quiet_of_same (bit_b2i _ _)))
  go_wp2_with fail
  go_loopw [3, 41] (fun s i wr => ∃ k : Nat, k ≤ 10 ∧ i = .int .i64 k ∧ s = .string (catF ((fieldsF f).take k)) ∧ allFit ((fieldsF f).take k) = true ∧ Below w.heap.size w wr) (fun _ i _ => 10 - (intOf i).toNat)
  case atStart => exact ⟨0, by omega, rfl, rfl, rfl, below_drewN ((Below.refl _ _).alloc (Nat.le_refl _) _) _⟩
  case round =>
    obtain ⟨k, hk, rfl, rfl, hfit, hbel⟩ := hrel
    have hsz := fields_le f k
    have HF := hide hfit
    clear hfit
    by_cases hlt : k < 10
    · have hidx := idxF f k hlt
      have h12 := fsz_12 f k hlt
      have hle : fsz f k ≤ 2 := by omega
      have HT := hide (fields_take f k hlt)
      have H12 := hide (show fsz f k = 1 ∨ fsz f k = 2 ∨ fsz f k = 4 by omega)
      clear h12
      generalize hS : catF ((fieldsF f).take k) = S at *
      have HS := hide hS
      clear hS
      cases hp : putFits (fsz f k) (fnn f k) with
      | true =>
        have HP := hide hp
        clear hp
        go_wp2_with (go_at_call 83; refine (put_yes _ H12.out _ _ HP.out).mono ?_; rintro e w' ⟨rfl, hb⟩)
        go_roundw
        case rel => exact ⟨k + 1, by omega, by go_num, by rw [HT.out, catF_snoc, HS.out], by rw [HT.out, allFit_snoc, HF.out, HP.out]; rfl, (hbel.alloc hbel.size _).trans (by have := hbel.size; exact Below.mono (by assumption) (by simp; omega))⟩
        case measure => simp [intOf]; omega
      | false =>
        have HP := hide hp
        clear hp
        go_wp2_with (go_at_call 83; refine (put_no _ H12.out _ _ HP.out).mono ?_; rintro e w' ⟨rfl, hb⟩)
        go_ret
        refine ⟨?_, (hbel.alloc hbel.size _).trans (by have := hbel.size; exact Below.mono (by assumption) (by simp; omega))⟩
        rw [fit_take f (k + 1) (by rw [HT.out, allFit_snoc, HP.out]; simp)]
        rfl
    · obtain rfl : k = 10 := by omega
      go_wp2
      go_ret
      refine ⟨?_, hbel⟩
      have : bytesF f = catF ((fieldsF f).take 10) ++ ⟨#[0, 0, 0]⟩ := by
        have h := HF.out
        have e : (fieldsF f).take 10 = fieldsF f := rfl
        rw [e] at h ⊢
        simp [bytesF, h]
      rw [this]
      rfl

end Go.Proofs.Ytodlpofpeoiedaa
