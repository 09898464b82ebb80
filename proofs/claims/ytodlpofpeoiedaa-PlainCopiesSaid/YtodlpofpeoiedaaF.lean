/-
  The contracts of octets.Cursor.Int, At, Err and octets.New, and of miradorref01.Cursor's Bytes and Int.
-/
import Derived.Test.YtodlpofpeoiedaaE
namespace Go.Proofs.Ytodlpofpeoiedaa
open Go.RowKit

theorem number_any (b : Nat) (c : Cu) (k : Nat) (hk : k = 1 ∨ k = 2 ∨ k = 4) (w : World) (h : IsCur 163 b c w) (hok : c.ok) :
    Calls Try.prog 125 #[.pointer (some ⟨b, 0, none⟩), .int .i64 k, .func (.func 126) #[] #[]] w fun en w' => en = .returned (.int .i64 (c.int k)) ∧ IsCur 163 b (c.bytes k) w' ∧ Only b w w' := by
  have hs := Cu.out_size c hok k
  by_cases hf : c.fits k = true
  · rw [if_pos hf] at hs
    rcases hk with rfl | rfl | rfl
    · exact number_1 b c 1 (by simp) w h hok hs
    · exact number_2 b c 2 (by simp) w h hok hs
    · exact number_4 b c 4 (by simp) w h hok hs
  · rw [if_neg hf] at hs
    exact number_0 b c k hk w h hok hs

set_option maxHeartbeats 400000 in
/-- octets.Cursor.Int. -/
theorem int_any (b : Nat) (c : Cu) (k : Nat) (hk : k = 1 ∨ k = 2 ∨ k = 4) (w : World) (h : IsCur 163 b c w) (hok : c.ok) :
    Calls Try.prog 73 #[.pointer (some ⟨b, 0, none⟩), .int .i64 k] w fun en w' => en = .returned (.int .i64 (c.int k)) ∧ IsCur 163 b (c.bytes k) w' ∧ Only b w w' := by
  have HN := hide (number_any b c k hk w h hok)
  clear hk h hok
  go_enter Try.func73, Try.ntmps73
  go_wp2_with (go_at_call 125; refine HN.out.mono ?_; rintro e w0 ⟨rfl, hc, ho⟩)
  go_ret
  exact ⟨rfl, by assumption, by assumption⟩

set_option maxHeartbeats 400000 in
theorem at_any (b : Nat) (c : Cu) (w : World) (h : IsCur 163 b c w) :
    Calls Try.prog 90 #[.pointer (some ⟨b, 0, none⟩)] w fun en w' => en = .returned (.int .i64 c.i) ∧ w = w' := by
  have h1 := h.c1
  clear h
  go_enter Try.func90, Try.ntmps90
  go_wp2
  go_ret
  exact ⟨rfl, rfl⟩

set_option maxHeartbeats 400000 in
theorem err_any (b : Nat) (c : Cu) (w : World) (h : IsCur 163 b c w) :
    Calls Try.prog 75 #[.pointer (some ⟨b, 0, none⟩)] w fun en w' => en = .returned (.int .i64 c.e) ∧ w = w' := by
  have h2 := h.c2
  clear h
  go_enter Try.func75, Try.ntmps75
  go_wp2
  go_ret
  exact ⟨rfl, rfl⟩

set_option maxHeartbeats 400000 in
theorem new_any (s : ByteArray) (w : World) :
    Calls Try.prog 72 #[.string s] w fun en w' => en = .returned (.pointer (some ⟨w.heap.size, 0, none⟩)) ∧ IsCur 163 w.heap.size ⟨s, 0, 0⟩ w' ∧ Below w.heap.size w w' ∧ w'.heap.size = w.heap.size + 1 := by
  go_enter Try.func72, Try.ntmps72
  go_wp2
  go_ret
  exact ⟨rfl, heap_alloc_new w _, (Below.refl _ _).alloc (Nat.le_refl _) _, by simp⟩

/-! ### miradorref01.Cursor -/

set_option maxHeartbeats 400000 in
set_option maxRecDepth 100000 in
theorem rbytes_any (b : Nat) (c : Cu) (n : Nat) (w : World) (h : IsCur 152 b c w) (hok : c.ok) (hn : n ≤ 1099511627776) :
    Calls Try.prog 120 #[.pointer (some ⟨b, 0, none⟩), .int .i64 n] w fun en w' => en = .returned (.string (c.out n)) ∧ IsCur 152 b (c.bytes n) w' ∧ Only b w w' := by
  obtain ⟨a1, a2⟩ := id hok
  have hn0 : ¬ (n : Int) < 0 := by omega
  have h0 := h.c0
  have h1 := h.c1
  have h2 := h.c2
  have hfr1 := h.fr 1
  have hfr2 := h.fr 2
  by_cases hf : c.fits n = true
  · rw [Cu.out_yes hf, Cu.bytes_yes hf]
    simp only [Cu.fits, Bool.and_eq_true, beq_iff_eq, decide_eq_true_eq] at hf
    obtain ⟨he, hl⟩ := hf
    have hgt : ¬ ((c.s.size : Int) - c.i < n) := by omega
    rw [he] at h2
    have HC := hide h
    have HE := hide he
    clear h he hok
    go_enter Try.func120, Try.ntmps120
    go_wp2_with fail
    go_quiet (fail)
    go_wp2_with fail
    go_quiet (fail)
    go_wp2
    go_ret
    refine ⟨rfl, ?_, ?_⟩
    · have := ((HC.out.drewN 0).set1 (c.i + n)).drewN 0
      rw [HE.out] at this
      exact this
    · exact ((Only.refl _ _).set 1 (.int .i64 (c.i + n : Nat))).drewN _
  · rw [Cu.out_no hf, Cu.bytes_no hf]
    by_cases he : c.e = 0
    · have hgt : (c.s.size : Int) - c.i < n := by
        have : ¬ n ≤ c.s.size - c.i := fun hx => hf (by simp [Cu.fits, he, hx])
        omega
      rw [err2_0 2 he]
      rw [he] at h2
      have HC := hide h
      clear h he hok hf
      go_enter Try.func120, Try.ntmps120
      go_wp2_with fail
      go_quiet (fail)
      go_wp2
      go_ret
      exact ⟨rfl, (HC.out.set2 2).drewN _, ((Only.refl _ _).set 2 _).drewN _⟩
    · rw [err2_1 2 he]
      have hxb : (c.e != 0) = true := by simp [he]
      have HC := hide h
      clear h he hok hf
      go_enter Try.func120, Try.ntmps120
      go_wp2
      go_ret
      exact ⟨rfl, HC.out, Only.refl _ _⟩

set_option maxHeartbeats 400000 in
/-- miradorref01.Cursor.Int. -/
theorem rcint_any (b : Nat) (c : Cu) (k : Nat) (hk : k = 1 ∨ k = 2 ∨ k = 4) (w : World) (h : IsCur 152 b c w) (hok : c.ok) :
    Calls Try.prog 114 #[.pointer (some ⟨b, 0, none⟩), .int .i64 k] w fun en w' => en = .returned (.int .i64 (c.int k)) ∧ IsCur 152 b (c.bytes k) w' ∧ Only b w w' := by
  have hsz : (c.out k).size ≤ 7 := by
    have := Cu.out_size c hok k
    rw [this]
    split <;> omega
  have HB := hide (rbytes_any b c k w h hok (by omega))
  have HI := hide (fun w => rint_any (c.out k) w hsz)
  have HY := hide (size_yes k w (by omega))
  have h2 := h.c2
  have hv : c.int k = beV (c.out k).data.toList := rfl
  have HV := hide hv
  clear hv hsz
  by_cases he : c.e = 0
  · have heb : (c.e == 0) = true := by simp [he]
    clear hk h hok he
    go_enter Try.func114, Try.ntmps114
    go_wp2_with (first | (go_at_call 132; refine HY.out.mono ?_; rintro e w0 ⟨rfl, rfl⟩) | (go_at_call 120; refine HB.out.mono ?_; rintro e w0 ⟨rfl, hc, ho⟩) | (go_at_call 76; refine (HI.out _).mono ?_; rintro e w0 ⟨rfl, rfl⟩))
    go_ret
    exact ⟨rfl, by assumption, by assumption⟩
  · have heb : (c.e == 0) = false := by simp [he]
    clear hk h hok
    go_enter Try.func114, Try.ntmps114
    go_wp2_with (first | (go_at_call 132; refine HY.out.mono ?_; rintro e w0 ⟨rfl, rfl⟩) | (go_at_call 120; refine HB.out.mono ?_; rintro e w0 ⟨rfl, hc, ho⟩) | (go_at_call 76; refine (HI.out _).mono ?_; rintro e w0 ⟨rfl, rfl⟩))
    go_ret
    exact ⟨rfl, by assumption, by assumption⟩

end Go.Proofs.Ytodlpofpeoiedaa
