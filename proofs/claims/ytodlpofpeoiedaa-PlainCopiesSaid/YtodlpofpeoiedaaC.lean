/-
  The contracts of the document's answer for octets (package miradorref01): Size, most, Put, Turned, Int, Signed, Minus.
-/
import Derived.Test.YtodlpofpeoiedaaB
namespace Go.Proofs.Ytodlpofpeoiedaa
open Go.RowKit

theorem below_al {B : Nat} {a w : World} (h : Below B a w) (hB : B ≤ a.heap.size) (o : Obj) : Below B a (w.alloc o) := h.alloc (Nat.le_trans hB h.size) o

theorem nums_append (a b : List Int) : strOfNums a ++ strOfNums b = strOfNums (a ++ b) := by
  rw [strOfNums_mk, strOfNums_mk, strOfNums_mk]
  apply ByteArray.ext
  simp

theorem nums_nil : (⟨#[]⟩ : ByteArray) = strOfNums [] := rfl

set_option maxHeartbeats 400000 in
theorem size_yes (n : Int) (w : World) (h : n = 1 ∨ n = 2 ∨ n = 4) :
    Calls Try.prog 132 #[.int .i64 n] w fun e w' => e = .returned (.bool true) ∧ w = w' := by
  rcases h with rfl | rfl | rfl
  all_goals
    go_enter Try.func132, Try.ntmps132
    go_wp2
    go_ret
    exact ⟨rfl, rfl⟩

set_option maxHeartbeats 400000 in
theorem most_1 (w : World) :
    Calls Try.prog 133 #[.int .i64 1] w fun e w' => e = .returned (.int .i64 255) ∧ w = w' := by
  go_enter Try.func133, Try.ntmps133
  go_wp2
  go_ret
  exact ⟨rfl, rfl⟩

set_option maxHeartbeats 400000 in
theorem most_2 (w : World) :
    Calls Try.prog 133 #[.int .i64 2] w fun e w' => e = .returned (.int .i64 65535) ∧ w = w' := by
  go_enter Try.func133, Try.ntmps133
  go_wp2
  go_ret
  exact ⟨rfl, rfl⟩

set_option maxHeartbeats 400000 in
theorem most_4 (w : World) :
    Calls Try.prog 133 #[.int .i64 4] w fun e w' => e = .returned (.int .i64 4294967295) ∧ w = w' := by
  go_enter Try.func133, Try.ntmps133
  go_wp2
  go_ret
  exact ⟨rfl, rfl⟩

theorem cv1 (w : World) (b : Nat) (a : Int) (h : b = w.heap.size) : (convert 114 9 (.slice (some ⟨b, 0, none⟩) 1 1)).run Try.prog (w.alloc (.cells #[.int .u8 a] 5)) = .ok (.string (strOfNums [a])) (w.alloc (.cells #[.int .u8 a] 5)) := by
  subst h
  exact cv w [a]

attribute [local go_sem] strOfNums_size

set_option maxHeartbeats 400000 in
set_option maxRecDepth 100000 in
theorem rput_no_1 (n : Int) (w : World) (h : n < 0 ∨ 256 ≤ n) :
    Calls Try.prog 85 #[.int .i64 1, .int .i64 n] w fun e w' => e = .returned (.tuple #[.string ⟨#[]⟩, .int .i64 1]) ∧ w = w' := by
  rcases h with h | h
  · go_enter Try.func85, Try.ntmps85
    go_wp2_with (first | (go_at_call 132; refine (size_yes _ _ (by simp)).mono ?_; rintro e w' ⟨rfl, rfl⟩) | (go_at_call 133; refine (most_1 _).mono ?_; rintro e w' ⟨rfl, rfl⟩))
    go_ret2
    exact ⟨rfl, rfl⟩
  · have h0 : ¬ n < 0 := by omega
    have h1 : (255 : Int) < n := by omega
    go_enter Try.func85, Try.ntmps85
    go_wp2_with (first | (go_at_call 132; refine (size_yes _ _ (by simp)).mono ?_; rintro e w' ⟨rfl, rfl⟩) | (go_at_call 133; refine (most_1 _).mono ?_; rintro e w' ⟨rfl, rfl⟩))
    go_ret2
    exact ⟨rfl, rfl⟩

set_option maxHeartbeats 400000 in
set_option maxRecDepth 100000 in
theorem rput_no_2 (n : Int) (w : World) (h : n < 0 ∨ 65536 ≤ n) :
    Calls Try.prog 85 #[.int .i64 2, .int .i64 n] w fun e w' => e = .returned (.tuple #[.string ⟨#[]⟩, .int .i64 1]) ∧ w = w' := by
  rcases h with h | h
  · go_enter Try.func85, Try.ntmps85
    go_wp2_with (first | (go_at_call 132; refine (size_yes _ _ (by simp)).mono ?_; rintro e w' ⟨rfl, rfl⟩) | (go_at_call 133; refine (most_2 _).mono ?_; rintro e w' ⟨rfl, rfl⟩))
    go_ret2
    exact ⟨rfl, rfl⟩
  · have h0 : ¬ n < 0 := by omega
    have h1 : (65535 : Int) < n := by omega
    go_enter Try.func85, Try.ntmps85
    go_wp2_with (first | (go_at_call 132; refine (size_yes _ _ (by simp)).mono ?_; rintro e w' ⟨rfl, rfl⟩) | (go_at_call 133; refine (most_2 _).mono ?_; rintro e w' ⟨rfl, rfl⟩))
    go_ret2
    exact ⟨rfl, rfl⟩

set_option maxHeartbeats 400000 in
set_option maxRecDepth 100000 in
theorem rput_no_4 (n : Int) (w : World) (h : n < 0 ∨ 4294967296 ≤ n) :
    Calls Try.prog 85 #[.int .i64 4, .int .i64 n] w fun e w' => e = .returned (.tuple #[.string ⟨#[]⟩, .int .i64 1]) ∧ w = w' := by
  rcases h with h | h
  · go_enter Try.func85, Try.ntmps85
    go_wp2_with (first | (go_at_call 132; refine (size_yes _ _ (by simp)).mono ?_; rintro e w' ⟨rfl, rfl⟩) | (go_at_call 133; refine (most_4 _).mono ?_; rintro e w' ⟨rfl, rfl⟩))
    go_ret2
    exact ⟨rfl, rfl⟩
  · have h0 : ¬ n < 0 := by omega
    have h1 : (4294967295 : Int) < n := by omega
    go_enter Try.func85, Try.ntmps85
    go_wp2_with (first | (go_at_call 132; refine (size_yes _ _ (by simp)).mono ?_; rintro e w' ⟨rfl, rfl⟩) | (go_at_call 133; refine (most_4 _).mono ?_; rintro e w' ⟨rfl, rfl⟩))
    go_ret2
    exact ⟨rfl, rfl⟩

set_option maxHeartbeats 800000 in
set_option maxRecDepth 100000 in
theorem rput_1 (n : Int) (w : World) (h : 0 ≤ n) (h2 : n < 256) :
    Calls Try.prog 85 #[.int .i64 1, .int .i64 n] w fun e w' => e = .returned (.tuple #[.string (beB 1 n), .int .i64 0]) ∧ Below w.heap.size w w' := by
  have hcv := cv1
  go_enter Try.func85, Try.ntmps85
  go_wp2_with (first | (go_at_call 132; refine (size_yes _ _ (by simp)).mono ?_; rintro e w' ⟨rfl, rfl⟩) | (go_at_call 133; refine (most_1 _).mono ?_; rintro e w' ⟨rfl, rfl⟩))
  refine wp_loop_rounds 2 ?_
  rw [rounds_succ]
  go_wp2
  rw [rounds_succ]
  go_wp2
  go_ret2
  have et : n % 256 = n := Int.emod_eq_of_lt (by omega) (by omega)
  refine ⟨?_, ?_⟩
  · rw [beB, leI_1, et]
    simp only [nums_nil, nums_append]
    rfl
  · repeat (first | exact Below.refl _ _ | refine below_al ?_ (Nat.le_refl _) _)

set_option maxHeartbeats 800000 in
set_option maxRecDepth 100000 in
theorem rput_2 (n : Int) (w : World) (h : 0 ≤ n) (h2 : n < 65536) :
    Calls Try.prog 85 #[.int .i64 2, .int .i64 n] w fun e w' => e = .returned (.tuple #[.string (beB 2 n), .int .i64 0]) ∧ Below w.heap.size w w' := by
  have hcv := cv1
  go_enter Try.func85, Try.ntmps85
  go_wp2_with (first | (go_at_call 132; refine (size_yes _ _ (by simp)).mono ?_; rintro e w' ⟨rfl, rfl⟩) | (go_at_call 133; refine (most_2 _).mono ?_; rintro e w' ⟨rfl, rfl⟩))
  refine wp_loop_rounds 3 ?_
  rw [rounds_succ]
  go_wp2
  rw [rounds_succ]
  go_wp2
  rw [rounds_succ]
  go_wp2
  go_ret2
  have et : n / 256 % 256 = n / 256 := Int.emod_eq_of_lt (by omega) (by omega)
  refine ⟨?_, ?_⟩
  · rw [beB, leI_2, et]
    simp only [nums_nil, nums_append]
    rfl
  · repeat (first | exact Below.refl _ _ | refine below_al ?_ (Nat.le_refl _) _)

set_option maxHeartbeats 800000 in
set_option maxRecDepth 100000 in
theorem rput_4 (n : Int) (w : World) (h : 0 ≤ n) (h2 : n < 4294967296) :
    Calls Try.prog 85 #[.int .i64 4, .int .i64 n] w fun e w' => e = .returned (.tuple #[.string (beB 4 n), .int .i64 0]) ∧ Below w.heap.size w w' := by
  have hcv := cv1
  go_enter Try.func85, Try.ntmps85
  go_wp2_with (first | (go_at_call 132; refine (size_yes _ _ (by simp)).mono ?_; rintro e w' ⟨rfl, rfl⟩) | (go_at_call 133; refine (most_4 _).mono ?_; rintro e w' ⟨rfl, rfl⟩))
  refine wp_loop_rounds 5 ?_
  rw [rounds_succ]
  go_wp2
  rw [rounds_succ]
  go_wp2
  rw [rounds_succ]
  go_wp2
  rw [rounds_succ]
  go_wp2
  rw [rounds_succ]
  go_wp2
  go_ret2
  refine ⟨?_, ?_⟩
  · rw [beB, show leI 4 n = [n % 256, n / 256 % 256, n / 256 / 256 % 256, n / 256 / 256 / 256 % 256] from rfl]
    simp only [nums_nil, nums_append]
    rfl
  · repeat (first | exact Below.refl _ _ | refine below_al ?_ (Nat.le_refl _) _)

/-- miradorref01.Put at one, two, four bytes: as octets.Put. -/
theorem rput_any (k : Nat) (hk : k = 1 ∨ k = 2 ∨ k = 4) (n : Int) (w : World) :
    Calls Try.prog 85 #[.int .i64 k, .int .i64 n] w fun e w' => e = .returned (.tuple #[.string (putS k n), .int .i64 (putE k n)]) ∧ Below w.heap.size w w' := by
  by_cases h : putFits k n = true
  · have h' := h
    simp only [putFits, decide_eq_true_eq] at h'
    unfold putE putS
    rw [if_pos h, if_pos h]
    rcases hk with rfl | rfl | rfl
    · exact rput_1 n w h'.1 h'.2
    · exact rput_2 n w h'.1 h'.2
    · exact rput_4 n w h'.1 h'.2
  · have h' := h
    simp only [putFits, decide_eq_true_eq] at h'
    unfold putE putS
    rw [if_neg h, if_neg h]
    have hB : ∀ e w', (e = Ending.returned (.tuple #[.string ⟨#[]⟩, .int .i64 1]) ∧ w = w') → e = Ending.returned (.tuple #[.string ⟨#[]⟩, .int .i64 1]) ∧ Below w.heap.size w w' := fun e w' ⟨he, hw⟩ => ⟨he, hw ▸ Below.refl _ _⟩
    rcases hk with rfl | rfl | rfl
    · exact (rput_no_1 n w (by omega)).mono hB
    · exact (rput_no_2 n w (by omega)).mono hB
    · exact (rput_no_4 n w (by omega)).mono hB

theorem beVI (l : List UInt8) (b : UInt8) : beV (l ++ [b]) = beV l * 256 + (b.toNat : Int) := beV_snoc l b

theorem take_snoc (s : ByteArray) (k : Nat) (h : k < s.size) : s.data.toList.take (k + 1) = s.data.toList.take k ++ [s[k]] := by
  rw [List.take_succ_eq_append_getElem (by rw [Array.length_toList]; exact h)]; rfl

theorem beV_lt (l : List UInt8) (h : l.length ≤ 6) : beV l < 281474976710656 := by
  have h1 := (beV_bd l).2
  have h2 : l.length = 0 ∨ l.length = 1 ∨ l.length = 2 ∨ l.length = 3 ∨ l.length = 4 ∨ l.length = 5 ∨ l.length = 6 := by omega
  rcases h2 with h2 | h2 | h2 | h2 | h2 | h2 | h2 <;> rw [h2] at h1 <;> omega

/-- miradorref01.Int of up to seven bytes. -/
theorem rint_any (s : ByteArray) (w : World) (hs : s.size ≤ 7) :
    Calls Try.prog 76 #[.string s] w fun e w' => e = .returned (.int .i64 (beV s.data.toList)) ∧ w = w' := by
  go_enter Try.func76, Try.ntmps76
  go_wp2
  go_loop [3, 4] (fun n i => ∃ k : Nat, k ≤ s.size ∧ i = .int .i64 k ∧ n = .int .i64 (beV (s.data.toList.take k))) (fun _ i => s.size - (intOf i).toNat)
  case atStart => exact ⟨0, Nat.zero_le _, rfl, rfl⟩
  case round =>
    obtain ⟨k, hk, rfl, rfl⟩ := hrel
    have h0 := (beV_bd (s.data.toList.take k)).1
    have hl : (s.data.toList.take k).length ≤ k := List.length_take_le _ _
    by_cases hlt : k < s.size
    · have h1 : beV (s.data.toList.take k) < 281474976710656 := beV_lt _ (by omega)
      have hts := take_snoc s k hlt
      have HS : Hid (beV (s.data.toList.take (k + 1)) = beV (s.data.toList.take k) * 256 + (s[k].toNat : Int)) := by rw [hts]; exact beV_snoc _ _
      have hb : (s[k].toNat : Int) < 256 := by have := s[k].toNat_lt; omega
      clear hts
      go_wp2
      go_round
      case rel => exact ⟨k + 1, by omega, by go_num, by rw [HS.out]⟩
      case measure => simp [intOf]; omega
    · go_wp2
      go_ret
      exact ⟨by rw [List.take_of_length_le (by rw [Array.length_toList]; exact Nat.le_of_not_lt hlt)]; rfl, rfl⟩

theorem minus_any (n : Int) (w : World) (h0 : 0 ≤ n) (h1 : n < 4294967296) :
    Calls Try.prog 141 #[.int .i64 n] w fun e w' => e = .returned (.int .i64 (if 2147483647 < n then n - 4294967296 else n)) ∧ w = w' := by
  by_cases h : 2147483647 < n
  · rw [if_pos h]
    go_enter Try.func141, Try.ntmps141
    go_wp2
    go_ret
    exact ⟨rfl, rfl⟩
  · rw [if_neg h]
    go_enter Try.func141, Try.ntmps141
    go_wp2
    go_ret
    exact ⟨rfl, rfl⟩
end Go.Proofs.Ytodlpofpeoiedaa
