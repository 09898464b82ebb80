/-
  The contracts of package octets' functions that write numbers: wide, Little, turned, Put, Signed; and of slices.Reverse at bytes.
-/
import Derived.Test.YtodlpofpeoiedaaProg
import Derived.Test.YtodlpofpeoiedaaS
import Derived.WalkKit
import Derived.WalkSpells
import Derived.WalkLawsBesides
import Derived.Lib.Hide
import Derived.Lib.ConvBytes
import Derived.Sort.WalkB12
import Derived.Lib.SlicesMore
import Derived.Shelf.SlicesE.Kit
namespace Go.Proofs.Ytodlpofpeoiedaa
open Go.RowKit Go.Lib Go.Sort

theorem hide {p : Prop} (h : p) : Hid p := h

set_option maxHeartbeats 400000 in
theorem wide_yes (n : Int) (w : World) (h : n = 1 ∨ n = 2 ∨ n = 4) :
    Calls Try.prog 142 #[.int .i64 n] w fun e w' => e = .returned (.bool true) ∧ w = w' := by
  rcases h with rfl | rfl | rfl
  all_goals
    go_enter Try.func142, Try.ntmps142
    go_wp2
    go_ret
    exact ⟨rfl, rfl⟩

theorem cv (w : World) (xs : List Int) : (convert 114 9 (.slice (some ⟨w.heap.size, 0, none⟩) xs.length xs.length)).run Try.prog (w.alloc (.cells (xs.map (Value.int .u8)).toArray 5)) = .ok (.string (strOfNums xs)) (w.alloc (.cells (xs.map (Value.int .u8)).toArray 5)) := by
  refine run_convert_bytes_arg _ 114 5 Try.underlying114 Try.underlying5 _ 0 _ _ xs rfl ?_ 9 Try.underlying9
  intro i hi
  rw [World.cell?_alloc_at _ _ _ _ rfl]
  simp [List.getD, hi]

set_option maxHeartbeats 400000 in
set_option maxRecDepth 100000 in
theorem little_no (k : Nat) (hk : k = 1 ∨ k = 2 ∨ k = 4) (n : Int) (w : World) (h : n < 0 ∨ 256 ^ k ≤ n) :
    Calls Try.prog 131 #[.int .i64 k, .int .i64 n] w fun e w' => e = .returned (.tuple #[.string ⟨#[]⟩, .int .i64 1]) ∧ w = w' := by
  rcases h with h | h
  · rcases hk with rfl | rfl | rfl
    all_goals
      go_enter Try.func131, Try.ntmps131
      go_wp2_with (go_at_call 142; refine (wide_yes _ _ (by simp)).mono ?_; rintro e w' ⟨rfl, rfl⟩)
      go_ret2
      exact ⟨rfl, rfl⟩
  · have h0 : ¬ n < 0 := by
      have : (0 : Int) < 256 ^ k := Int.pow_pos (by decide)
      omega
    rcases hk with rfl | rfl | rfl
    · have hq : (n / 256 != 0) = true := by rw [bne_iff_ne]; omega
      go_enter Try.func131, Try.ntmps131
      go_wp2_with (go_at_call 142; refine (wide_yes _ _ (by simp)).mono ?_; rintro e w' ⟨rfl, rfl⟩)
      go_ret2
      exact ⟨rfl, rfl⟩
    · have hq : (n / 65536 != 0) = true := by rw [bne_iff_ne]; omega
      go_enter Try.func131, Try.ntmps131
      go_wp2_with (go_at_call 142; refine (wide_yes _ _ (by simp)).mono ?_; rintro e w' ⟨rfl, rfl⟩)
      go_ret2
      exact ⟨rfl, rfl⟩
    · have hq : (n / 4294967296 != 0) = true := by rw [bne_iff_ne]; omega
      go_enter Try.func131, Try.ntmps131
      go_wp2_with (go_at_call 142; refine (wide_yes _ _ (by simp)).mono ?_; rintro e w' ⟨rfl, rfl⟩)
      go_ret2
      exact ⟨rfl, rfl⟩

set_option maxHeartbeats 400000 in
set_option maxRecDepth 100000 in
theorem little_1 (n : Int) (w : World) (h : 0 ≤ n) (h2 : n < 256) :
    Calls Try.prog 131 #[.int .i64 1, .int .i64 n] w fun e w' => e = .returned (.tuple #[.string (leB 1 n), .int .i64 0]) ∧ Below w.heap.size w w' := by
  have hq : (n / 256 != 0) = false := by rw [bne_eq_false_iff_eq]; omega
  have hmk : ∀ w, (Instr.makeSlice 114 (.int .i64 1) (.int .i64 1)).run Try.prog w = .ok (.slice (some ⟨w.heap.size,0,none⟩) 1 1) (w.alloc (.cells #[.int .u8 0] 5)) := fun _ => by kernel_rfl
  have hcv := fun (w : World) a => cv w [a]
  simp only [List.length_cons, List.length_nil, List.map_cons, List.map_nil, Nat.zero_add] at hcv
  go_enter Try.func131, Try.ntmps131
  go_wp2_with (go_at_call 142; refine (wide_yes _ _ (by simp)).mono ?_; rintro e w' ⟨rfl, rfl⟩)
  refine wp_loop_rounds 2 ?_
  rw [rounds_succ]
  go_wp2
  rw [rounds_succ]
  go_wp2
  go_ret2
  have et : n % 256 = n := Int.emod_eq_of_lt (by omega) (by omega)
  exact ⟨by rw [leB, leI_1, et]; rfl, (Below.refl _ _).alloc (Nat.le_refl _) _⟩

set_option maxHeartbeats 400000 in
set_option maxRecDepth 100000 in
theorem little_2 (n : Int) (w : World) (h : 0 ≤ n) (h2 : n < 65536) :
    Calls Try.prog 131 #[.int .i64 2, .int .i64 n] w fun e w' => e = .returned (.tuple #[.string (leB 2 n), .int .i64 0]) ∧ Below w.heap.size w w' := by
  have hq : (n / 65536 != 0) = false := by rw [bne_eq_false_iff_eq]; omega
  have hmk : ∀ w, (Instr.makeSlice 114 (.int .i64 2) (.int .i64 2)).run Try.prog w = .ok (.slice (some ⟨w.heap.size,0,none⟩) 2 2) (w.alloc (.cells #[.int .u8 0, .int .u8 0] 5)) := fun _ => by kernel_rfl
  have hcv := fun (w : World) a b => cv w [a, b]
  simp only [List.length_cons, List.length_nil, List.map_cons, List.map_nil, Nat.zero_add, Nat.reduceAdd] at hcv
  go_enter Try.func131, Try.ntmps131
  go_wp2_with (go_at_call 142; refine (wide_yes _ _ (by simp)).mono ?_; rintro e w' ⟨rfl, rfl⟩)
  refine wp_loop_rounds 3 ?_
  rw [rounds_succ]
  go_wp2
  rw [rounds_succ]
  go_wp2
  rw [rounds_succ]
  go_wp2
  go_ret2
  have et : n / 256 % 256 = n / 256 := Int.emod_eq_of_lt (by omega) (by omega)
  exact ⟨by rw [leB, leI_2, et]; rfl, (Below.refl _ _).alloc (Nat.le_refl _) _⟩

set_option maxHeartbeats 400000 in
set_option maxRecDepth 100000 in
theorem little_4 (n : Int) (w : World) (h : 0 ≤ n) (h2 : n < 4294967296) :
    Calls Try.prog 131 #[.int .i64 4, .int .i64 n] w fun e w' => e = .returned (.tuple #[.string (leB 4 n), .int .i64 0]) ∧ Below w.heap.size w w' := by
  have hq : (n / 4294967296 != 0) = false := by rw [bne_eq_false_iff_eq]; omega
  have hmk : ∀ w, (Instr.makeSlice 114 (.int .i64 4) (.int .i64 4)).run Try.prog w = .ok (.slice (some ⟨w.heap.size,0,none⟩) 4 4) (w.alloc (.cells #[.int .u8 0, .int .u8 0, .int .u8 0, .int .u8 0] 5)) := fun _ => by kernel_rfl
  have hcv := fun (w : World) a b c d => cv w [a, b, c, d]
  simp only [List.length_cons, List.length_nil, List.map_cons, List.map_nil, Nat.zero_add, Nat.reduceAdd] at hcv
  go_enter Try.func131, Try.ntmps131
  go_wp2_with (go_at_call 142; refine (wide_yes _ _ (by simp)).mono ?_; rintro e w' ⟨rfl, rfl⟩)
  refine wp_loop_rounds 5 ?_
  rw [rounds_succ]
  go_wp2
  rw [rounds_succ]
  go_wp2
  rw [rounds_succ]
  go_wp2
  rw [rounds_succ]
  go_wp2
  rw [rounds_succ]
  go_wp2
  go_ret2
  have et : n / 16777216 % 256 = n / 16777216 := Int.emod_eq_of_lt (by omega) (by omega)
  exact ⟨by rw [leB, leI_4, et]; rfl, (Below.refl _ _).alloc (Nat.le_refl _) _⟩

/-- Little at one, two, four bytes: its bytes, the least one first, if the number fits. -/
theorem little_any (k : Nat) (hk : k = 1 ∨ k = 2 ∨ k = 4) (n : Int) (w : World) :
    Calls Try.prog 131 #[.int .i64 k, .int .i64 n] w fun e w' => e = .returned (.tuple #[.string (if putFits k n then leB k n else ⟨#[]⟩), .int .i64 (putE k n)]) ∧ Below w.heap.size w w' := by
  by_cases h : putFits k n = true
  · have h' := h
    simp only [putFits, decide_eq_true_eq] at h'
    unfold putE
    rw [if_pos h, if_pos h]
    rcases hk with rfl | rfl | rfl
    · exact little_1 n w h'.1 h'.2
    · exact little_2 n w h'.1 h'.2
    · exact little_4 n w h'.1 h'.2
  · have h' := h
    simp only [putFits, decide_eq_true_eq] at h'
    unfold putE
    rw [if_neg h, if_neg h]
    exact (little_no k hk n w (by omega)).mono fun e w' ⟨he, hw⟩ => ⟨he, hw ▸ Below.refl _ _⟩

abbrev encU8 (n : Int) : Value := .int .u8 n

theorem oneU8 : OneCell encU8 := fun _ => rfl

set_option maxHeartbeats 1600000 in
set_option maxRecDepth 1000000 in
theorem reverse_any (blk off cap : Nat) (d : Array Int) (w : World) (hH : Holds encU8 w blk off d) (hsz : d.size ≤ 9223372036854775807) :
    Calls Try.prog 140 #[.slice (some ⟨blk, off, none⟩) d.size cap] w fun e w' => e = .returned (.tuple #[]) ∧ ∃ n, w' = putRow encU8 (Sort.ahead w n) blk off d.reverse := by
  go_enter Try.func140, Try.ntmps140
  go_wp2
  go_loopg [2, 3] d.size (fun k s2 s3 wr => ∃ (i jn : Nat) (jz : Int) (dk : Array Int) (n : Nat), s2 = .int .i64 i ∧ s3 = .int .i64 jz ∧ ((i : Int) < jz → jz = jn ∧ jn < d.size) ∧ (¬ (i : Int) < jz → ¬ i < jn) ∧ jn - i ≤ k ∧
    dk.size = d.size ∧ wr = putRow encU8 (Sort.ahead w n) blk off dk ∧ reverseLoop i jn dk = reverseLoop 0 (d.size - 1) d)
  case atStart => exact ⟨0, d.size - 1, (d.size : Int) - 1, d, 0, rfl, rfl, fun h => ⟨by omega, by omega⟩, fun h => by omega, by omega, rfl, (putRow_self encU8 w blk off d hH).symm, rfl⟩
  case round =>
    obtain ⟨i, jn, jz, dk, n, rfl, rfl, h1, h2, hk, hds, hwr, heq⟩ := hrel
    by_cases hlt : (i : Int) < jz
    · obtain ⟨rfl, hjn⟩ := h1 hlt
      have hij : i < jn := by omega
      have hHk : Holds encU8 wr blk off dk := by rw [hwr]; exact holds_putRow encU8 _ blk off d dk (holds_ahead encU8 w n blk off d hH) hds
      obtain ⟨ci, fi⟩ := hHk i (by omega)
      obtain ⟨cj, fj⟩ := hHk jn (by omega)
      have A : Aside (wr = putRow encU8 (Sort.ahead w n) blk off dk) := hwr
      clear hwr hHk hH h1 h2
      go_wp2_with fail
      go_region
      go_wp2
      go_roundg (jn - 1 - (i + 1))
      case measure => omega
      case rel =>
        rw [reverseLoop, if_pos hij] at heq
        exact ⟨i + 1, jn - 1, (jn : Int) - 1, swp dk i jn, n + 1, by simp, rfl, fun h => ⟨by omega, by omega⟩, fun h => by omega, Nat.le_refl _, by rw [size_swp]; exact hds,
          swap_world encU8 (by omega) (by omega) A.out (by first | rfl | simp [getElem!_pos, show jn < dk.size by omega]) (by first | rfl | simp [getElem!_pos, show i < dk.size by omega]), heq⟩
    · have hnot := h2 hlt
      go_wp2
      go_end0
      refine ⟨rfl, n, ?_⟩
      rw [reverseLoop, if_neg hnot] at heq
      rw [← Lib.reverseLoop_reverse, ← heq]

end Go.Proofs.Ytodlpofpeoiedaa
