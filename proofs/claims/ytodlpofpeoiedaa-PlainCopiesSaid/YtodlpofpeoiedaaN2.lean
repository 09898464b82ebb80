/-
  A format's sixteen bytes by the document: miradorref13.Bytes.
-/
import Derived.Test.YtodlpofpeoiedaaN
import Derived.StillTailTactics
import Derived.Deep.RegionWith
namespace Go.Proofs.Ytodlpofpeoiedaa
open Go.RowKit

/-- A region that reads, and at last makes memory: in the order of the text. -/
theorem still_tail {P : Program} {id : Nat} {Q : Exit → Act → World → Prop} {a : Act} {w : World} {l : List Oper} (n : Nat) (hm : P.follows .mixedOrders = true) (hB : Region.lexTailB .any l.toArray n = true)
    (h : wpStill P l.toArray w.drew (fun a' => wpList P l.toArray Q (l.drop n) a' w.drew) (l.take n) a) : (Code.region id l.toArray true).wp P Q a w := wp_region_still_tail n hm hB h

attribute [local go_sem] beB_size

theorem rput_yes (k : Nat) (hk : k = 1 ∨ k = 2 ∨ k = 4) (n : Int) (w : World) (h : putFits k n = true) :
    Calls Try.prog 85 #[.int .i64 k, .int .i64 n] w fun e w' => e = .returned (.tuple #[.string (beB k n), .int .i64 0]) ∧ Below w.heap.size w w' := by
  have := rput_any k hk n w
  unfold putS putE at this
  rwa [if_pos h, if_pos h] at this
theorem rput_no (k : Nat) (hk : k = 1 ∨ k = 2 ∨ k = 4) (n : Int) (w : World) (h : putFits k n = false) :
    Calls Try.prog 85 #[.int .i64 k, .int .i64 n] w fun e w' => e = .returned (.tuple #[.string ⟨#[]⟩, .int .i64 1]) ∧ Below w.heap.size w w' := by
  have := rput_any k hk n w
  unfold putS putE at this
  rwa [if_neg (by simp [h]), if_neg (by simp [h])] at this

theorem flag_b2i (b : Bool) (w : World) : Calls Try.prog 84 #[.bool b] w fun e w' => e = .returned (.int .i64 (b2i b)) ∧ w' = w := (flag_any b w).mono fun _ _ ⟨h1, h2⟩ => ⟨h1, h2.symm⟩

set_option maxHeartbeats 1600000 in
set_option maxRecDepth 100000 in
theorem rfbytes_any (f : Fmt) (w : World) :
    Calls Try.prog 20 #[.agg #[.int .i64 f.bits, .int .i64 f.depth, .bool f.big, .bool f.tru, .int .i64 f.rm, .int .i64 f.gm, .int .i64 f.bm, .int .i64 f.rs, .int .i64 f.gs, .int .i64 f.bs]] w
      fun e w' => e = .returned (.string (bytesF f)) ∧ Below w.heap.size w w' := by
  go_enter Try.func20, Try.ntmps20
  go_wp2_with fail
  refine still_tail 22 (by kernel_rfl) (by kernel_rfl) ?_
  simp only [List.take_succ_cons, List.take_zero, List.drop_succ_cons, List.drop_zero]
  repeat still_step
  still_call (flag_b2i _ _)
  repeat still_step
  still_call (flag_b2i _ _)
  repeat still_step
  refine wpStill_nil ?_
  go_wp2_with fail
  go_loopw [4, 5] (fun s i wr => ∃ k : Nat, k ≤ 10 ∧ i = .int .i64 k ∧ s = .string (catF ((fieldsF f).take k)) ∧ allFit ((fieldsF f).take k) = true ∧ Below w.heap.size w wr ∧ (∀ j, j < 10 → wr.cell? ⟨w.heap.size + 1, j, none⟩ = some (.int .i64 (fnn f j))) ∧ w.heap.size + 1 < wr.heap.size) (fun _ i _ => 10 - (intOf i).toNat)
  case atStart =>
    refine ⟨0, by omega, rfl, rfl, rfl, ?_, ?_, ?_⟩
    · exact (((Below.refl _ _).alloc (Nat.le_refl _) _).alloc (by simp) _).drew
    · intro j hj
      rw [World.cell?_drew, World.cell?_alloc_at _ _ _ _ (by simp)]
      have : j = 0 ∨ j = 1 ∨ j = 2 ∨ j = 3 ∨ j = 4 ∨ j = 5 ∨ j = 6 ∨ j = 7 ∨ j = 8 ∨ j = 9 := by omega
      rcases this with h | h | h | h | h | h | h | h | h | h <;> subst h <;> rfl
    · simp
  case round =>
    obtain ⟨k, hk, rfl, rfl, hfit, hbel, hcell, hz⟩ := hrel
    have hsz := fields_le f k
    have HF := hide hfit
    clear hfit
    by_cases hlt : k < 10
    · have hx := hcell k hlt
      have HC := hide hcell
      clear hcell
      have h46 : (4 ≤ k ∧ k ≤ 6 ∧ fsz f k = 2) ∨ ((k < 4 ∨ 6 < k) ∧ fsz f k = 1) := by
        have : k = 0 ∨ k = 1 ∨ k = 2 ∨ k = 3 ∨ k = 4 ∨ k = 5 ∨ k = 6 ∨ k = 7 ∨ k = 8 ∨ k = 9 := by omega
        rcases this with h | h | h | h | h | h | h | h | h | h <;> subst h <;> simp [fsz, fieldsF]
      have HT := hide (fields_take f k hlt)
      generalize hS : catF ((fieldsF f).take k) = S at *
      have HS := hide hS
      clear hS
      have HB := hide hbel
      clear hbel
      rcases h46 with ⟨h4, h6, hz2⟩ | ⟨h46, hz1⟩
      · have HZ := hide hz2
        clear hz2
        cases hp : putFits 2 (fnn f k) with
        | true =>
          have HP := hide hp
          clear hp
          go_wp2_with (go_at_call 85; refine (rput_yes 2 (by simp) _ _ HP.out).mono ?_; rintro e w' ⟨rfl, hb⟩)
          go_roundw
          case rel => exact ⟨k + 1, by omega, by go_num, by rw [HT.out, catF_snoc, HS.out, HZ.out], by rw [HT.out, allFit_snoc, HF.out, HZ.out, HP.out]; rfl, HB.out.trans (Below.mono (by assumption) HB.out.size), fun j hj => (Below.cell (p := ⟨w.heap.size + 1, j, none⟩) (by assumption) hz).trans (HC.out j hj), Nat.lt_of_lt_of_le hz (Below.size (by assumption))⟩
          case measure => simp [intOf]; omega
        | false =>
          have HP := hide hp
          clear hp
          go_wp2_with (go_at_call 85; refine (rput_no 2 (by simp) _ _ HP.out).mono ?_; rintro e w' ⟨rfl, hb⟩)
          go_ret
          refine ⟨?_, HB.out.trans (Below.mono (by assumption) HB.out.size)⟩
          rw [fit_take f (k + 1) (by rw [HT.out, allFit_snoc, HZ.out, HP.out]; simp)]
          rfl
      · have HZ := hide hz1
        clear hz1
        rcases h46 with h4 | h6
        all_goals
          cases hp : putFits 1 (fnn f k) with
          | true =>
            have HP := hide hp
            clear hp
            go_wp2_with (go_at_call 85; refine (rput_yes 1 (by simp) _ _ HP.out).mono ?_; rintro e w' ⟨rfl, hb⟩)
            go_roundw
            case rel => exact ⟨k + 1, by omega, by go_num, by rw [HT.out, catF_snoc, HS.out, HZ.out], by rw [HT.out, allFit_snoc, HF.out, HZ.out, HP.out]; rfl, HB.out.trans (Below.mono (by assumption) HB.out.size), fun j hj => (Below.cell (p := ⟨w.heap.size + 1, j, none⟩) (by assumption) hz).trans (HC.out j hj), Nat.lt_of_lt_of_le hz (Below.size (by assumption))⟩
            case measure => simp [intOf]; omega
          | false =>
            have HP := hide hp
            clear hp
            go_wp2_with (go_at_call 85; refine (rput_no 1 (by simp) _ _ HP.out).mono ?_; rintro e w' ⟨rfl, hb⟩)
            go_ret
            refine ⟨?_, HB.out.trans (Below.mono (by assumption) HB.out.size)⟩
            rw [fit_take f (k + 1) (by rw [HT.out, allFit_snoc, HZ.out, HP.out]; simp)]
            rfl
    · obtain rfl : k = 10 := by omega
      clear hcell
      go_wp2
      go_ret
      refine ⟨?_, hbel⟩
      have : bytesF f = catF ((fieldsF f).take 10) ++ ⟨#[0, 0, 0]⟩ := by
        have h := HF.out
        have e : (fieldsF f).take 10 = fieldsF f := rfl
        rw [e] at h ⊢
        simp [bytesF, h]
      rw [this]
      rfl

end Go.Proofs.Ytodlpofpeoiedaa
