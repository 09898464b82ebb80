/-
  Plain words on bytes and numbers: a number's bytes, the least or the greatest one first, and the number of bytes. No program in sight.
-/
import Derived.Laws.BytesArg
import Derived.Below
import Derived.Test.YtodlpofpeoiedaaProg
import Derived.WalkKit
import Derived.WalkSpells
import Derived.WalkLawsBesides
import Derived.Lib.Hide
import Derived.Lib.ConvBytes
import Derived.Sort.WalkB12
import Derived.Lib.SlicesMore
import Derived.Shelf.SlicesE.Kit
import Derived.Deep.QuietTactic
import Derived.BigQuiet
import Derived.Deep.Draws
import Derived.Lib.BitFns
import Derived.Shelf.Small.Bits
namespace Go.Proofs.Ytodlpofpeoiedaa
open Go.RowKit

/-- The k lowest bytes of a number, the least one first. -/
def leI : Nat → Int → List Int
  | 0, _ => []
  | k + 1, n => n % 256 :: leI k (n / 256)

theorem leI_length (k : Nat) : ∀ n, (leI k n).length = k := by
  induction k with
  | zero => intro n; rfl
  | succ k ih => intro n; simp [leI, ih]

/-- The same as a string, the least byte first. -/
def leB (k : Nat) (n : Int) : ByteArray := strOfNums (leI k n)

/-- The greatest byte first. -/
def beB (k : Nat) (n : Int) : ByteArray := strOfNums (leI k n).reverse

/-- A number is written in k bytes, if it fits: the bytes, and the error. -/
def putFits (k : Nat) (n : Int) : Bool := decide (0 ≤ n ∧ n < 256 ^ k)
def putS (k : Nat) (n : Int) : ByteArray := if putFits k n then beB k n else ⟨#[]⟩
def putE (k : Nat) (n : Int) : Int := if putFits k n then 0 else 1

theorem strOfNums_mk (xs : List Int) : strOfNums xs = ⟨(xs.map fun n => UInt8.ofNat n.toNat).toArray⟩ := rfl

theorem beB_size (k : Nat) (n : Int) : (beB k n).size = k := by
  rw [beB, strOfNums_size, List.length_reverse, leI_length]

theorem snoc_ind {α : Type} {P : List α → Prop} (h0 : P []) (h1 : ∀ l b, P l → P (l ++ [b])) (l : List α) : P l := by
  have h : ∀ m : List α, P m.reverse := fun m => by
    induction m with
    | nil => exact h0
    | cons a m ih => rw [List.reverse_cons]; exact h1 _ _ ih
  simpa using h l.reverse

/-- The number of bytes, the greatest one first. -/
def beV (l : List UInt8) : Int := l.foldl (fun a b => a * 256 + (b.toNat : Int)) 0

theorem beV_append (l m : List UInt8) : beV (l ++ m) = m.foldl (fun a b => a * 256 + (b.toNat : Int)) (beV l) := by
  simp [beV, List.foldl_append]

theorem beV_snoc (l : List UInt8) (b : UInt8) : beV (l ++ [b]) = beV l * 256 + b.toNat := by
  simp [beV, List.foldl_append]

theorem beV_bd (l : List UInt8) : 0 ≤ beV l ∧ beV l < 256 ^ l.length := by
  refine snoc_ind (P := fun l => 0 ≤ beV l ∧ beV l < 256 ^ l.length) (by simp [beV]) (fun l b ih => ?_) l
  rw [beV_snoc]
  have := b.toNat_lt
  simp only [List.length_append, List.length_cons, List.length_nil, Nat.zero_add, Int.pow_succ]
  omega

/-- The number of bytes, the least one first. -/
def leV : List UInt8 → Int
  | [] => 0
  | b :: l => b.toNat + 256 * leV l

theorem leV_reverse (l : List UInt8) : leV l.reverse = beV l := by
  refine snoc_ind (P := fun l => leV l.reverse = beV l) rfl (fun l b ih => ?_) l
  rw [beV_snoc, List.reverse_append]
  simp [leV, ih]
  omega

/-- What was written in k bytes is read again. -/
theorem beV_beB (k : Nat) : ∀ n : Int, 0 ≤ n → n < 256 ^ k → beV (beB k n).data.toList = n := by
  have h : ∀ (k : Nat) (n : Int), 0 ≤ n → n < 256 ^ k → leV ((leI k n).map fun n => UInt8.ofNat n.toNat) = n := by
    intro k
    induction k with
    | zero => intro n h0 h1; simp [leI, leV] at *; omega
    | succ k ih =>
      intro n h0 h1
      have h2 : n / 256 < 256 ^ k := by
        rw [Int.pow_succ] at h1
        omega
      have := ih (n / 256) (by omega) h2
      simp only [leI, List.map_cons, leV, this]
      have e : ((UInt8.ofNat (n % 256).toNat).toNat : Int) = n % 256 := by
        simp
        omega
      rw [e]
      omega
  intro n h0 h1
  rw [← leV_reverse, beB, strOfNums_data, List.map_reverse, List.reverse_reverse, h k n h0 h1]

theorem leI_1 (n : Int) : leI 1 n = [n % 256] := rfl
theorem leI_2 (n : Int) : leI 2 n = [n % 256, n / 256 % 256] := rfl
theorem leI_4 (n : Int) : leI 4 n = [n % 256, n / 256 % 256, n / 65536 % 256, n / 16777216 % 256] := by
  simp only [leI, List.cons.injEq, true_and, and_true]
  omega

end Go.Proofs.Ytodlpofpeoiedaa

/-
  The contracts of package octets' functions that write numbers: wide, Little, turned, Put, Signed; and of slices.Reverse at bytes.
-/
namespace Go.Proofs.Ytodlpofpeoiedaa
open Go.RowKit Go.Lib Go.Sort

theorem hide {p : Prop} (h : p) : Hid p := h

set_option maxHeartbeats 400000 in
theorem wide_yes (n : Int) (w : World) (h : n = 1 ∨ n = 2 ∨ n = 4) :
    Calls Try.prog 142 #[.int .i64 n] w fun e w' => e = .returned (.bool true) ∧ w = w' := by
  rcases h with rfl | rfl | rfl
  all_goals
    go_enter Try.func142, Try.ntmps142
    go_wp2
    go_ret
    exact ⟨rfl, rfl⟩

theorem cv (w : World) (xs : List Int) : (convert 114 9 (.slice (some ⟨w.heap.size, 0, none⟩) xs.length xs.length)).run Try.prog (w.alloc (.cells (xs.map (Value.int .u8)).toArray 5)) = .ok (.string (strOfNums xs)) (w.alloc (.cells (xs.map (Value.int .u8)).toArray 5)) := by
  refine run_convert_bytes_arg _ 114 5 Try.underlying114 Try.underlying5 _ 0 _ _ xs rfl ?_ 9 Try.underlying9
  intro i hi
  rw [World.cell?_alloc_at _ _ _ _ rfl]
  simp [List.getD, hi]

set_option maxHeartbeats 400000 in
set_option maxRecDepth 100000 in
theorem little_no (k : Nat) (hk : k = 1 ∨ k = 2 ∨ k = 4) (n : Int) (w : World) (h : n < 0 ∨ 256 ^ k ≤ n) :
    Calls Try.prog 131 #[.int .i64 k, .int .i64 n] w fun e w' => e = .returned (.tuple #[.string ⟨#[]⟩, .int .i64 1]) ∧ w = w' := by
  rcases h with h | h
  · rcases hk with rfl | rfl | rfl
    all_goals
      go_enter Try.func131, Try.ntmps131
      go_wp2_with (go_at_call 142; refine (wide_yes _ _ (by simp)).mono ?_; rintro e w' ⟨rfl, rfl⟩)
      go_ret2
      exact ⟨rfl, rfl⟩
  · have h0 : ¬ n < 0 := by
      have : (0 : Int) < 256 ^ k := Int.pow_pos (by decide)
      omega
    rcases hk with rfl | rfl | rfl
    · have hq : (n / 256 != 0) = true := by rw [bne_iff_ne]; omega
      go_enter Try.func131, Try.ntmps131
      go_wp2_with (go_at_call 142; refine (wide_yes _ _ (by simp)).mono ?_; rintro e w' ⟨rfl, rfl⟩)
      go_ret2
      exact ⟨rfl, rfl⟩
    · have hq : (n / 65536 != 0) = true := by rw [bne_iff_ne]; omega
      go_enter Try.func131, Try.ntmps131
      go_wp2_with (go_at_call 142; refine (wide_yes _ _ (by simp)).mono ?_; rintro e w' ⟨rfl, rfl⟩)
      go_ret2
      exact ⟨rfl, rfl⟩
    · have hq : (n / 4294967296 != 0) = true := by rw [bne_iff_ne]; omega
      go_enter Try.func131, Try.ntmps131
      go_wp2_with (go_at_call 142; refine (wide_yes _ _ (by simp)).mono ?_; rintro e w' ⟨rfl, rfl⟩)
      go_ret2
      exact ⟨rfl, rfl⟩

set_option maxHeartbeats 400000 in
set_option maxRecDepth 100000 in
theorem little_1 (n : Int) (w : World) (h : 0 ≤ n) (h2 : n < 256) :
    Calls Try.prog 131 #[.int .i64 1, .int .i64 n] w fun e w' => e = .returned (.tuple #[.string (leB 1 n), .int .i64 0]) ∧ Below w.heap.size w w' := by
  have hq : (n / 256 != 0) = false := by rw [bne_eq_false_iff_eq]; omega
  have hmk : ∀ w, (Instr.makeSlice 114 (.int .i64 1) (.int .i64 1)).run Try.prog w = .ok (.slice (some ⟨w.heap.size,0,none⟩) 1 1) (w.alloc (.cells #[.int .u8 0] 5)) := fun _ => by kernel_rfl
  have hcv := fun (w : World) a => cv w [a]
  simp only [List.length_cons, List.length_nil, List.map_cons, List.map_nil, Nat.zero_add] at hcv
  go_enter Try.func131, Try.ntmps131
  go_wp2_with (go_at_call 142; refine (wide_yes _ _ (by simp)).mono ?_; rintro e w' ⟨rfl, rfl⟩)
  refine wp_loop_rounds 2 ?_
  rw [rounds_succ]
  go_wp2
  rw [rounds_succ]
  go_wp2
  go_ret2
  have et : n % 256 = n := Int.emod_eq_of_lt (by omega) (by omega)
  exact ⟨by rw [leB, leI_1, et]; rfl, (Below.refl _ _).alloc (Nat.le_refl _) _⟩

set_option maxHeartbeats 400000 in
set_option maxRecDepth 100000 in
theorem little_2 (n : Int) (w : World) (h : 0 ≤ n) (h2 : n < 65536) :
    Calls Try.prog 131 #[.int .i64 2, .int .i64 n] w fun e w' => e = .returned (.tuple #[.string (leB 2 n), .int .i64 0]) ∧ Below w.heap.size w w' := by
  have hq : (n / 65536 != 0) = false := by rw [bne_eq_false_iff_eq]; omega
  have hmk : ∀ w, (Instr.makeSlice 114 (.int .i64 2) (.int .i64 2)).run Try.prog w = .ok (.slice (some ⟨w.heap.size,0,none⟩) 2 2) (w.alloc (.cells #[.int .u8 0, .int .u8 0] 5)) := fun _ => by kernel_rfl
  have hcv := fun (w : World) a b => cv w [a, b]
  simp only [List.length_cons, List.length_nil, List.map_cons, List.map_nil, Nat.zero_add, Nat.reduceAdd] at hcv
  go_enter Try.func131, Try.ntmps131
  go_wp2_with (go_at_call 142; refine (wide_yes _ _ (by simp)).mono ?_; rintro e w' ⟨rfl, rfl⟩)
  refine wp_loop_rounds 3 ?_
  rw [rounds_succ]
  go_wp2
  rw [rounds_succ]
  go_wp2
  rw [rounds_succ]
  go_wp2
  go_ret2
  have et : n / 256 % 256 = n / 256 := Int.emod_eq_of_lt (by omega) (by omega)
  exact ⟨by rw [leB, leI_2, et]; rfl, (Below.refl _ _).alloc (Nat.le_refl _) _⟩

set_option maxHeartbeats 400000 in
set_option maxRecDepth 100000 in
theorem little_4 (n : Int) (w : World) (h : 0 ≤ n) (h2 : n < 4294967296) :
    Calls Try.prog 131 #[.int .i64 4, .int .i64 n] w fun e w' => e = .returned (.tuple #[.string (leB 4 n), .int .i64 0]) ∧ Below w.heap.size w w' := by
  have hq : (n / 4294967296 != 0) = false := by rw [bne_eq_false_iff_eq]; omega
  have hmk : ∀ w, (Instr.makeSlice 114 (.int .i64 4) (.int .i64 4)).run Try.prog w = .ok (.slice (some ⟨w.heap.size,0,none⟩) 4 4) (w.alloc (.cells #[.int .u8 0, .int .u8 0, .int .u8 0, .int .u8 0] 5)) := fun _ => by kernel_rfl
  have hcv := fun (w : World) a b c d => cv w [a, b, c, d]
  simp only [List.length_cons, List.length_nil, List.map_cons, List.map_nil, Nat.zero_add, Nat.reduceAdd] at hcv
  go_enter Try.func131, Try.ntmps131
  go_wp2_with (go_at_call 142; refine (wide_yes _ _ (by simp)).mono ?_; rintro e w' ⟨rfl, rfl⟩)
  refine wp_loop_rounds 5 ?_
  rw [rounds_succ]
  go_wp2
  rw [rounds_succ]
  go_wp2
  rw [rounds_succ]
  go_wp2
  rw [rounds_succ]
  go_wp2
  rw [rounds_succ]
  go_wp2
  go_ret2
  have et : n / 16777216 % 256 = n / 16777216 := Int.emod_eq_of_lt (by omega) (by omega)
  exact ⟨by rw [leB, leI_4, et]; rfl, (Below.refl _ _).alloc (Nat.le_refl _) _⟩

/-- Little at one, two, four bytes: its bytes, the least one first, if the number fits. -/
theorem little_any (k : Nat) (hk : k = 1 ∨ k = 2 ∨ k = 4) (n : Int) (w : World) :
    Calls Try.prog 131 #[.int .i64 k, .int .i64 n] w fun e w' => e = .returned (.tuple #[.string (if putFits k n then leB k n else ⟨#[]⟩), .int .i64 (putE k n)]) ∧ Below w.heap.size w w' := by
  by_cases h : putFits k n = true
  · have h' := h
    simp only [putFits, decide_eq_true_eq] at h'
    unfold putE
    rw [if_pos h, if_pos h]
    rcases hk with rfl | rfl | rfl
    · exact little_1 n w h'.1 h'.2
    · exact little_2 n w h'.1 h'.2
    · exact little_4 n w h'.1 h'.2
  · have h' := h
    simp only [putFits, decide_eq_true_eq] at h'
    unfold putE
    rw [if_neg h, if_neg h]
    exact (little_no k hk n w (by omega)).mono fun e w' ⟨he, hw⟩ => ⟨he, hw ▸ Below.refl _ _⟩

abbrev encU8 (n : Int) : Value := .int .u8 n

theorem oneU8 : OneCell encU8 := fun _ => rfl

set_option maxHeartbeats 1600000 in
set_option maxRecDepth 1000000 in
theorem reverse_any (blk off cap : Nat) (d : Array Int) (w : World) (hH : Holds encU8 w blk off d) (hsz : d.size ≤ 9223372036854775807) :
    Calls Try.prog 140 #[.slice (some ⟨blk, off, none⟩) d.size cap] w fun e w' => e = .returned (.tuple #[]) ∧ ∃ n, w' = putRow encU8 (Sort.ahead w n) blk off d.reverse := by
  go_enter Try.func140, Try.ntmps140
  go_wp2
  go_loopg [2, 3] d.size (fun k s2 s3 wr => ∃ (i jn : Nat) (jz : Int) (dk : Array Int) (n : Nat), s2 = .int .i64 i ∧ s3 = .int .i64 jz ∧ ((i : Int) < jz → jz = jn ∧ jn < d.size) ∧ (¬ (i : Int) < jz → ¬ i < jn) ∧ jn - i ≤ k ∧
    dk.size = d.size ∧ wr = putRow encU8 (Sort.ahead w n) blk off dk ∧ reverseLoop i jn dk = reverseLoop 0 (d.size - 1) d)
  case atStart => exact ⟨0, d.size - 1, (d.size : Int) - 1, d, 0, rfl, rfl, fun h => ⟨by omega, by omega⟩, fun h => by omega, by omega, rfl, (putRow_self encU8 w blk off d hH).symm, rfl⟩
  case round =>
    obtain ⟨i, jn, jz, dk, n, rfl, rfl, h1, h2, hk, hds, hwr, heq⟩ := hrel
    by_cases hlt : (i : Int) < jz
    · obtain ⟨rfl, hjn⟩ := h1 hlt
      have hij : i < jn := by omega
      have hHk : Holds encU8 wr blk off dk := by rw [hwr]; exact holds_putRow encU8 _ blk off d dk (holds_ahead encU8 w n blk off d hH) hds
      obtain ⟨ci, fi⟩ := hHk i (by omega)
      obtain ⟨cj, fj⟩ := hHk jn (by omega)
      have A : Aside (wr = putRow encU8 (Sort.ahead w n) blk off dk) := hwr
      clear hwr hHk hH h1 h2
      go_wp2_with fail
      go_region
      go_wp2
      go_roundg (jn - 1 - (i + 1))
      case measure => omega
      case rel =>
        rw [reverseLoop, if_pos hij] at heq
        exact ⟨i + 1, jn - 1, (jn : Int) - 1, swp dk i jn, n + 1, by simp, rfl, fun h => ⟨by omega, by omega⟩, fun h => by omega, Nat.le_refl _, by rw [size_swp]; exact hds,
          swap_world encU8 (by omega) (by omega) A.out (by first | rfl | simp [getElem!_pos, show jn < dk.size by omega]) (by first | rfl | simp [getElem!_pos, show i < dk.size by omega]), heq⟩
    · have hnot := h2 hlt
      go_wp2
      go_end0
      refine ⟨rfl, n, ?_⟩
      rw [reverseLoop, if_neg hnot] at heq
      rw [← Lib.reverseLoop_reverse, ← heq]

end Go.Proofs.Ytodlpofpeoiedaa

/-
  The contracts of octets.turned, Put and Signed.
-/
namespace Go.Proofs.Ytodlpofpeoiedaa
open Go.RowKit Go.Lib Go.Sort

theorem nums_back (l : List UInt8) : strOfNums (l.map fun b => (b.toNat : Int)) = ⟨l.toArray⟩ := by
  rw [strOfNums_mk]
  congr 2
  rw [List.map_map]
  conv => rhs; rw [← List.map_id l]
  apply List.map_congr_left
  intro b _
  simp

theorem putRow_below {α : Type} [Inhabited α] (enc : α → Value) (B : Nat) (w : World) (n blk off : Nat) (d : Array α) (h : B ≤ blk) : Below B w (putRow enc (Sort.ahead w n) blk off d) := by
  refine ⟨rfl, rfl, rfl, ?_, fun k hk => ?_⟩
  · simp [putRow, mapBlock, Sort.ahead]
  · simp only [putRow, mapBlock, Sort.ahead, Array.getElem?_modify]
    rw [if_neg (by omega)]

theorem bytesWorld_below (w : World) (e : TypeId) (s : ByteArray) : Below w.heap.size w (bytesWorld w e s) := by
  refine ⟨?_, ?_, ?_, ?_, fun k hk => bytesWorld_at_old w e s k hk⟩
  · simp [bytesWorld, World.freeze, World.alloc, World.drew, -World.alloc_eq, -World.drew_eq]
  · simp [bytesWorld, World.freeze, World.alloc, World.drew, -World.alloc_eq, -World.drew_eq]
  · simp [bytesWorld, World.freeze, World.alloc, World.drew, -World.alloc_eq, -World.drew_eq]
  · rw [bytesWorld_size]; omega

/-- slices.Reverse of the bytes of a string, and what these are as a string behind it. -/
theorem reverse_bytes (s : ByteArray) (w : World) (hs : s.size ≤ 9223372036854775807) :
    Calls Try.prog 140 #[.slice (some ⟨w.heap.size, 0, none⟩) s.size (grownCap w s.size 0 5)] (bytesWorld w 5 s) fun e w' => e = .returned (.tuple #[]) ∧ Below w.heap.size w w' ∧
      (convert 114 9 (.slice (some ⟨w.heap.size, 0, none⟩) s.size (grownCap w s.size 0 5))).run Try.prog w' = .ok (.string ⟨s.data.reverse⟩) w' := by
  have hd : (s.data.map fun b => (b.toNat : Int)).size = s.size := by rw [Array.size_map]; rfl
  have hH : Holds encU8 (bytesWorld w 5 s) w.heap.size 0 (s.data.map fun b => (b.toNat : Int)) := by
    intro j hj
    rw [hd] at hj
    have hj' : j < s.data.size := hj
    refine ⟨?_, ?_⟩
    · rw [Nat.zero_add, bytesWorld_cell w 5 s j hj]
      rw [getElem!_pos _ _ (by simpa using hj')]
      simp [List.getD]
      rw [Array.getElem?_eq_getElem hj']
      rfl
    · simp only [World.frozen?, bytesWorld_at_new, Nat.zero_add]
      have : s.size ≤ (bytesCells w 5 s).size := by
        show s.data.size ≤ _
        rw [bytesCells, Array.size_append, Array.size_map]
        omega
      simp
      omega
  have h := reverse_any w.heap.size 0 (grownCap w s.size 0 5) _ (bytesWorld w 5 s) hH (by rw [hd]; exact hs)
  rw [hd] at h
  refine h.mono fun e w' ⟨he, n, hw⟩ => ⟨he, ?_, ?_⟩
  · subst hw
    exact (bytesWorld_below w 5 s).trans (putRow_below _ _ _ _ _ _ _ (Nat.le_refl _))
  · have hh : Holds encU8 w' w.heap.size 0 (s.data.map fun b => (b.toNat : Int)).reverse := by
      rw [hw]
      exact holds_putRow encU8 _ _ 0 _ _ (holds_ahead encU8 _ n _ 0 _ hH) (by simp)
    have e1 : (⟨s.data.reverse⟩ : ByteArray) = strOfNums (s.data.toList.reverse.map fun b => (b.toNat : Int)) := by
      rw [nums_back]
      congr 1
      apply Array.ext'
      simp
    rw [e1]
    refine run_convert_bytes_arg w' 114 5 Try.underlying114 Try.underlying5 _ 0 _ _ _ (by rw [List.length_map, List.length_reverse]; rfl) ?_ 9 Try.underlying9
    intro i hi
    have hi' : i < s.data.size := hi
    have := (hh i (by simpa using hi')).1
    rw [this, getElem!_pos _ _ (by simpa using hi'), List.getD_eq_getElem?_getD, List.getElem?_eq_getElem (by simpa using hi'), Option.getD_some]
    simp

set_option maxHeartbeats 400000 in
set_option maxRecDepth 100000 in
/-- octets.turned: a text the other way round. -/
theorem turned_any (s : ByteArray) (w : World) (hs : s.size ≤ 9223372036854775807) :
    Calls Try.prog 126 #[.string s] w fun e w' => e = .returned (.string ⟨s.data.reverse⟩) ∧ Below w.heap.size w w' := by
  have hcb := fun (w : World) (s : ByteArray) => Lib.run_convert_string_bytes (P := Try.prog) w 9 114 5 s (u := .string) Try.underlying9 Try.underlying114 Try.underlying5
  have HS := hide hs
  clear hs
  go_enter Try.func126, Try.ntmps126
  go_wp2_with (go_at_call 140; refine (reverse_bytes s w HS.out).mono ?_; rintro e w' ⟨rfl, hb, hcv⟩)
  go_ret
  exact ⟨rfl, by assumption⟩

theorem beB_rev (k : Nat) (n : Int) : (⟨(leB k n).data.reverse⟩ : ByteArray) = beB k n := by
  simp [leB, beB, strOfNums_mk]

theorem leB_size (k : Nat) (n : Int) : (leB k n).size = k := by
  rw [leB, strOfNums_size, leI_length]

set_option maxHeartbeats 400000 in
/-- octets.Put at one, two, four bytes. -/
theorem put_any (k : Nat) (hk : k = 1 ∨ k = 2 ∨ k = 4) (n : Int) (w : World) :
    Calls Try.prog 83 #[.int .i64 k, .int .i64 n] w fun e w' => e = .returned (.tuple #[.string (putS k n), .int .i64 (putE k n)]) ∧ Below w.heap.size w w' := by
  have hsz : (if putFits k n then leB k n else ⟨#[]⟩ : ByteArray).size ≤ 9223372036854775807 := by
    split
    · rw [leB_size]; omega
    · simp [ByteArray.size]
  have hrv : (⟨(if putFits k n then leB k n else ⟨#[]⟩ : ByteArray).data.reverse⟩ : ByteArray) = putS k n := by
    unfold putS
    split
    · exact beB_rev k n
    · rfl
  have hl := little_any k hk n w
  generalize (if putFits k n then leB k n else ⟨#[]⟩ : ByteArray) = s at *
  generalize putE k n = ee at *
  have HR := hide hrv
  clear hrv
  have HL := hide hl
  clear hl
  have HZ := hide hsz
  clear hsz
  go_enter Try.func83, Try.ntmps83
  go_wp2_with (first | (go_at_call 131; refine HL.out.mono ?_; rintro e w1 ⟨rfl, hb1⟩) | (go_at_call 126; refine (turned_any s _ HZ.out).mono ?_; rintro e w2 ⟨rfl, hb2⟩))
  go_ret2
  exact ⟨by rw [HR.out]; rfl, hb1.trans (hb2.mono hb1.size)⟩

end Go.Proofs.Ytodlpofpeoiedaa

/-
  The contracts of the document's answer for octets (package miradorref01): Size, most, Put, Turned, Int, Signed, Minus.
-/
namespace Go.Proofs.Ytodlpofpeoiedaa
open Go.RowKit

theorem below_al {B : Nat} {a w : World} (h : Below B a w) (hB : B ≤ a.heap.size) (o : Obj) : Below B a (w.alloc o) := h.alloc (Nat.le_trans hB h.size) o

theorem nums_append (a b : List Int) : strOfNums a ++ strOfNums b = strOfNums (a ++ b) := by
  rw [strOfNums_mk, strOfNums_mk, strOfNums_mk]
  apply ByteArray.ext
  simp

theorem nums_nil : (⟨#[]⟩ : ByteArray) = strOfNums [] := rfl

set_option maxHeartbeats 400000 in
theorem size_yes (n : Int) (w : World) (h : n = 1 ∨ n = 2 ∨ n = 4) :
    Calls Try.prog 132 #[.int .i64 n] w fun e w' => e = .returned (.bool true) ∧ w = w' := by
  rcases h with rfl | rfl | rfl
  all_goals
    go_enter Try.func132, Try.ntmps132
    go_wp2
    go_ret
    exact ⟨rfl, rfl⟩

set_option maxHeartbeats 400000 in
theorem most_1 (w : World) :
    Calls Try.prog 133 #[.int .i64 1] w fun e w' => e = .returned (.int .i64 255) ∧ w = w' := by
  go_enter Try.func133, Try.ntmps133
  go_wp2
  go_ret
  exact ⟨rfl, rfl⟩

set_option maxHeartbeats 400000 in
theorem most_2 (w : World) :
    Calls Try.prog 133 #[.int .i64 2] w fun e w' => e = .returned (.int .i64 65535) ∧ w = w' := by
  go_enter Try.func133, Try.ntmps133
  go_wp2
  go_ret
  exact ⟨rfl, rfl⟩

set_option maxHeartbeats 400000 in
theorem most_4 (w : World) :
    Calls Try.prog 133 #[.int .i64 4] w fun e w' => e = .returned (.int .i64 4294967295) ∧ w = w' := by
  go_enter Try.func133, Try.ntmps133
  go_wp2
  go_ret
  exact ⟨rfl, rfl⟩

theorem cv1 (w : World) (b : Nat) (a : Int) (h : b = w.heap.size) : (convert 114 9 (.slice (some ⟨b, 0, none⟩) 1 1)).run Try.prog (w.alloc (.cells #[.int .u8 a] 5)) = .ok (.string (strOfNums [a])) (w.alloc (.cells #[.int .u8 a] 5)) := by
  subst h
  exact cv w [a]

attribute [local go_sem] strOfNums_size

set_option maxHeartbeats 400000 in
set_option maxRecDepth 100000 in
theorem rput_no_1 (n : Int) (w : World) (h : n < 0 ∨ 256 ≤ n) :
    Calls Try.prog 85 #[.int .i64 1, .int .i64 n] w fun e w' => e = .returned (.tuple #[.string ⟨#[]⟩, .int .i64 1]) ∧ w = w' := by
  rcases h with h | h
  · go_enter Try.func85, Try.ntmps85
    go_wp2_with (first | (go_at_call 132; refine (size_yes _ _ (by simp)).mono ?_; rintro e w' ⟨rfl, rfl⟩) | (go_at_call 133; refine (most_1 _).mono ?_; rintro e w' ⟨rfl, rfl⟩))
    go_ret2
    exact ⟨rfl, rfl⟩
  · have h0 : ¬ n < 0 := by omega
    have h1 : (255 : Int) < n := by omega
    go_enter Try.func85, Try.ntmps85
    go_wp2_with (first | (go_at_call 132; refine (size_yes _ _ (by simp)).mono ?_; rintro e w' ⟨rfl, rfl⟩) | (go_at_call 133; refine (most_1 _).mono ?_; rintro e w' ⟨rfl, rfl⟩))
    go_ret2
    exact ⟨rfl, rfl⟩

set_option maxHeartbeats 400000 in
set_option maxRecDepth 100000 in
theorem rput_no_2 (n : Int) (w : World) (h : n < 0 ∨ 65536 ≤ n) :
    Calls Try.prog 85 #[.int .i64 2, .int .i64 n] w fun e w' => e = .returned (.tuple #[.string ⟨#[]⟩, .int .i64 1]) ∧ w = w' := by
  rcases h with h | h
  · go_enter Try.func85, Try.ntmps85
    go_wp2_with (first | (go_at_call 132; refine (size_yes _ _ (by simp)).mono ?_; rintro e w' ⟨rfl, rfl⟩) | (go_at_call 133; refine (most_2 _).mono ?_; rintro e w' ⟨rfl, rfl⟩))
    go_ret2
    exact ⟨rfl, rfl⟩
  · have h0 : ¬ n < 0 := by omega
    have h1 : (65535 : Int) < n := by omega
    go_enter Try.func85, Try.ntmps85
    go_wp2_with (first | (go_at_call 132; refine (size_yes _ _ (by simp)).mono ?_; rintro e w' ⟨rfl, rfl⟩) | (go_at_call 133; refine (most_2 _).mono ?_; rintro e w' ⟨rfl, rfl⟩))
    go_ret2
    exact ⟨rfl, rfl⟩

set_option maxHeartbeats 400000 in
set_option maxRecDepth 100000 in
theorem rput_no_4 (n : Int) (w : World) (h : n < 0 ∨ 4294967296 ≤ n) :
    Calls Try.prog 85 #[.int .i64 4, .int .i64 n] w fun e w' => e = .returned (.tuple #[.string ⟨#[]⟩, .int .i64 1]) ∧ w = w' := by
  rcases h with h | h
  · go_enter Try.func85, Try.ntmps85
    go_wp2_with (first | (go_at_call 132; refine (size_yes _ _ (by simp)).mono ?_; rintro e w' ⟨rfl, rfl⟩) | (go_at_call 133; refine (most_4 _).mono ?_; rintro e w' ⟨rfl, rfl⟩))
    go_ret2
    exact ⟨rfl, rfl⟩
  · have h0 : ¬ n < 0 := by omega
    have h1 : (4294967295 : Int) < n := by omega
    go_enter Try.func85, Try.ntmps85
    go_wp2_with (first | (go_at_call 132; refine (size_yes _ _ (by simp)).mono ?_; rintro e w' ⟨rfl, rfl⟩) | (go_at_call 133; refine (most_4 _).mono ?_; rintro e w' ⟨rfl, rfl⟩))
    go_ret2
    exact ⟨rfl, rfl⟩

set_option maxHeartbeats 800000 in
set_option maxRecDepth 100000 in
theorem rput_1 (n : Int) (w : World) (h : 0 ≤ n) (h2 : n < 256) :
    Calls Try.prog 85 #[.int .i64 1, .int .i64 n] w fun e w' => e = .returned (.tuple #[.string (beB 1 n), .int .i64 0]) ∧ Below w.heap.size w w' := by
  have hcv := cv1
  go_enter Try.func85, Try.ntmps85
  go_wp2_with (first | (go_at_call 132; refine (size_yes _ _ (by simp)).mono ?_; rintro e w' ⟨rfl, rfl⟩) | (go_at_call 133; refine (most_1 _).mono ?_; rintro e w' ⟨rfl, rfl⟩))
  refine wp_loop_rounds 2 ?_
  rw [rounds_succ]
  go_wp2
  rw [rounds_succ]
  go_wp2
  go_ret2
  have et : n % 256 = n := Int.emod_eq_of_lt (by omega) (by omega)
  refine ⟨?_, ?_⟩
  · rw [beB, leI_1, et]
    simp only [nums_nil, nums_append]
    rfl
  · repeat (first | exact Below.refl _ _ | refine below_al ?_ (Nat.le_refl _) _)

set_option maxHeartbeats 800000 in
set_option maxRecDepth 100000 in
theorem rput_2 (n : Int) (w : World) (h : 0 ≤ n) (h2 : n < 65536) :
    Calls Try.prog 85 #[.int .i64 2, .int .i64 n] w fun e w' => e = .returned (.tuple #[.string (beB 2 n), .int .i64 0]) ∧ Below w.heap.size w w' := by
  have hcv := cv1
  go_enter Try.func85, Try.ntmps85
  go_wp2_with (first | (go_at_call 132; refine (size_yes _ _ (by simp)).mono ?_; rintro e w' ⟨rfl, rfl⟩) | (go_at_call 133; refine (most_2 _).mono ?_; rintro e w' ⟨rfl, rfl⟩))
  refine wp_loop_rounds 3 ?_
  rw [rounds_succ]
  go_wp2
  rw [rounds_succ]
  go_wp2
  rw [rounds_succ]
  go_wp2
  go_ret2
  have et : n / 256 % 256 = n / 256 := Int.emod_eq_of_lt (by omega) (by omega)
  refine ⟨?_, ?_⟩
  · rw [beB, leI_2, et]
    simp only [nums_nil, nums_append]
    rfl
  · repeat (first | exact Below.refl _ _ | refine below_al ?_ (Nat.le_refl _) _)

set_option maxHeartbeats 800000 in
set_option maxRecDepth 100000 in
theorem rput_4 (n : Int) (w : World) (h : 0 ≤ n) (h2 : n < 4294967296) :
    Calls Try.prog 85 #[.int .i64 4, .int .i64 n] w fun e w' => e = .returned (.tuple #[.string (beB 4 n), .int .i64 0]) ∧ Below w.heap.size w w' := by
  have hcv := cv1
  go_enter Try.func85, Try.ntmps85
  go_wp2_with (first | (go_at_call 132; refine (size_yes _ _ (by simp)).mono ?_; rintro e w' ⟨rfl, rfl⟩) | (go_at_call 133; refine (most_4 _).mono ?_; rintro e w' ⟨rfl, rfl⟩))
  refine wp_loop_rounds 5 ?_
  rw [rounds_succ]
  go_wp2
  rw [rounds_succ]
  go_wp2
  rw [rounds_succ]
  go_wp2
  rw [rounds_succ]
  go_wp2
  rw [rounds_succ]
  go_wp2
  go_ret2
  refine ⟨?_, ?_⟩
  · rw [beB, show leI 4 n = [n % 256, n / 256 % 256, n / 256 / 256 % 256, n / 256 / 256 / 256 % 256] from rfl]
    simp only [nums_nil, nums_append]
    rfl
  · repeat (first | exact Below.refl _ _ | refine below_al ?_ (Nat.le_refl _) _)

/-- miradorref01.Put at one, two, four bytes: as octets.Put. -/
theorem rput_any (k : Nat) (hk : k = 1 ∨ k = 2 ∨ k = 4) (n : Int) (w : World) :
    Calls Try.prog 85 #[.int .i64 k, .int .i64 n] w fun e w' => e = .returned (.tuple #[.string (putS k n), .int .i64 (putE k n)]) ∧ Below w.heap.size w w' := by
  by_cases h : putFits k n = true
  · have h' := h
    simp only [putFits, decide_eq_true_eq] at h'
    unfold putE putS
    rw [if_pos h, if_pos h]
    rcases hk with rfl | rfl | rfl
    · exact rput_1 n w h'.1 h'.2
    · exact rput_2 n w h'.1 h'.2
    · exact rput_4 n w h'.1 h'.2
  · have h' := h
    simp only [putFits, decide_eq_true_eq] at h'
    unfold putE putS
    rw [if_neg h, if_neg h]
    have hB : ∀ e w', (e = Ending.returned (.tuple #[.string ⟨#[]⟩, .int .i64 1]) ∧ w = w') → e = Ending.returned (.tuple #[.string ⟨#[]⟩, .int .i64 1]) ∧ Below w.heap.size w w' := fun e w' ⟨he, hw⟩ => ⟨he, hw ▸ Below.refl _ _⟩
    rcases hk with rfl | rfl | rfl
    · exact (rput_no_1 n w (by omega)).mono hB
    · exact (rput_no_2 n w (by omega)).mono hB
    · exact (rput_no_4 n w (by omega)).mono hB

theorem beVI (l : List UInt8) (b : UInt8) : beV (l ++ [b]) = beV l * 256 + (b.toNat : Int) := beV_snoc l b

theorem take_snoc (s : ByteArray) (k : Nat) (h : k < s.size) : s.data.toList.take (k + 1) = s.data.toList.take k ++ [s[k]] := by
  rw [List.take_succ_eq_append_getElem (by rw [Array.length_toList]; exact h)]; rfl

theorem beV_lt (l : List UInt8) (h : l.length ≤ 6) : beV l < 281474976710656 := by
  have h1 := (beV_bd l).2
  have h2 : l.length = 0 ∨ l.length = 1 ∨ l.length = 2 ∨ l.length = 3 ∨ l.length = 4 ∨ l.length = 5 ∨ l.length = 6 := by omega
  rcases h2 with h2 | h2 | h2 | h2 | h2 | h2 | h2 <;> rw [h2] at h1 <;> omega

/-- miradorref01.Int of up to seven bytes. -/
theorem rint_any (s : ByteArray) (w : World) (hs : s.size ≤ 7) :
    Calls Try.prog 76 #[.string s] w fun e w' => e = .returned (.int .i64 (beV s.data.toList)) ∧ w = w' := by
  go_enter Try.func76, Try.ntmps76
  go_wp2
  go_loop [3, 4] (fun n i => ∃ k : Nat, k ≤ s.size ∧ i = .int .i64 k ∧ n = .int .i64 (beV (s.data.toList.take k))) (fun _ i => s.size - (intOf i).toNat)
  case atStart => exact ⟨0, Nat.zero_le _, rfl, rfl⟩
  case round =>
    obtain ⟨k, hk, rfl, rfl⟩ := hrel
    have h0 := (beV_bd (s.data.toList.take k)).1
    have hl : (s.data.toList.take k).length ≤ k := List.length_take_le _ _
    by_cases hlt : k < s.size
    · have h1 : beV (s.data.toList.take k) < 281474976710656 := beV_lt _ (by omega)
      have hts := take_snoc s k hlt
      have HS : Hid (beV (s.data.toList.take (k + 1)) = beV (s.data.toList.take k) * 256 + (s[k].toNat : Int)) := by rw [hts]; exact beV_snoc _ _
      have hb : (s[k].toNat : Int) < 256 := by have := s[k].toNat_lt; omega
      clear hts
      go_wp2
      go_round
      case rel => exact ⟨k + 1, by omega, by go_num, by rw [HS.out]⟩
      case measure => simp [intOf]; omega
    · go_wp2
      go_ret
      exact ⟨by rw [List.take_of_length_le (by rw [Array.length_toList]; exact Nat.le_of_not_lt hlt)]; rfl, rfl⟩

theorem minus_any (n : Int) (w : World) (h0 : 0 ≤ n) (h1 : n < 4294967296) :
    Calls Try.prog 141 #[.int .i64 n] w fun e w' => e = .returned (.int .i64 (if 2147483647 < n then n - 4294967296 else n)) ∧ w = w' := by
  by_cases h : 2147483647 < n
  · rw [if_pos h]
    go_enter Try.func141, Try.ntmps141
    go_wp2
    go_ret
    exact ⟨rfl, rfl⟩
  · rw [if_neg h]
    go_enter Try.func141, Try.ntmps141
    go_wp2
    go_ret
    exact ⟨rfl, rfl⟩
end Go.Proofs.Ytodlpofpeoiedaa

/-
  A cursor over a text, as both packages have it (octets.Cursor, miradorref01.Cursor): what it holds, what its next bytes are, and the contracts of octets' methods.
-/
namespace Go.Proofs.Ytodlpofpeoiedaa
open Go.RowKit

theorem and_i64_nat (a b : Nat) (ha : a < 9223372036854775808) (hb : b < 9223372036854775808) :
    bits .and .i64 (a : Int) (b : Int) = ((a &&& b : Nat) : Int) := by
  have hx : a &&& b < 2 ^ 63 := Nat.and_lt_two_pow _ (by omega)
  have h1 : (BitVec.ofInt 64 (a : Int)).toNat = a := by
    rw [BitVec.ofInt_natCast, BitVec.toNat_ofNat]; exact Nat.mod_eq_of_lt (by omega)
  have h2 : (BitVec.ofInt 64 (b : Int)).toNat = b := by
    rw [BitVec.ofInt_natCast, BitVec.toNat_ofNat]; exact Nat.mod_eq_of_lt (by omega)
  show IntKind.i64.wrap ((BitVec.ofInt 64 (a : Int) &&& BitVec.ofInt 64 (b : Int)).toNat : Int) = _
  rw [BitVec.toNat_and, h1, h2, IntKind.wrap_i64]
  omega

theorem or_i64_nat (a b : Nat) (ha : a < 9223372036854775808) (hb : b < 9223372036854775808) :
    bits .or .i64 (a : Int) (b : Int) = ((a ||| b : Nat) : Int) := by
  have hx : a ||| b < 2 ^ 63 := Nat.or_lt_two_pow (by omega) (by omega)
  have h1 : (BitVec.ofInt 64 (a : Int)).toNat = a := by
    rw [BitVec.ofInt_natCast, BitVec.toNat_ofNat]; exact Nat.mod_eq_of_lt (by omega)
  have h2 : (BitVec.ofInt 64 (b : Int)).toNat = b := by
    rw [BitVec.ofInt_natCast, BitVec.toNat_ofNat]; exact Nat.mod_eq_of_lt (by omega)
  show IntKind.i64.wrap ((BitVec.ofInt 64 (a : Int) ||| BitVec.ofInt 64 (b : Int)).toNat : Int) = _
  rw [BitVec.toNat_or, h1, h2, IntKind.wrap_i64]
  omega

/-- Bits that stand above a number's are added to it. -/
theorem or_nat (m x y : Nat) (hx : x < 2 ^ m) (hx' : x < 9223372036854775808) (h : y * 2 ^ m < 9223372036854775808) : bits .or .i64 (x : Int) ((y * 2 ^ m : Nat) : Int) = ((x + y * 2 ^ m : Nat) : Int) := by
  rw [or_i64_nat x (y * 2 ^ m) hx' h, Nat.or_comm, Nat.mul_comm, ← Nat.two_pow_add_eq_or_of_lt hx, Nat.add_comm]

theorem or0 (y : Int) (h2 : 0 ≤ y) (h3 : y < 256) : bits .or .i64 0 y = y := by
  obtain ⟨b, rfl⟩ := Int.eq_ofNat_of_zero_le h2
  have h := or_nat 0 0 b (by omega) (by omega) (by omega)
  simpa using h

theorem or8 (x y : Int) (h0 : 0 ≤ x) (h1 : x < 256) (h2 : 0 ≤ y) (h3 : y < 256) : bits .or .i64 x (y * 256) = x + y * 256 := by
  obtain ⟨a, rfl⟩ := Int.eq_ofNat_of_zero_le h0
  obtain ⟨b, rfl⟩ := Int.eq_ofNat_of_zero_le h2
  have h := or_nat 8 a b (by omega) (by omega) (by omega)
  simpa using h

theorem or16 (x y : Int) (h0 : 0 ≤ x) (h1 : x < 65536) (h2 : 0 ≤ y) (h3 : y < 256) : bits .or .i64 x (y * 65536) = x + y * 65536 := by
  obtain ⟨a, rfl⟩ := Int.eq_ofNat_of_zero_le h0
  obtain ⟨b, rfl⟩ := Int.eq_ofNat_of_zero_le h2
  have h := or_nat 16 a b (by omega) (by omega) (by omega)
  simpa using h

theorem or24 (x y : Int) (h0 : 0 ≤ x) (h1 : x < 16777216) (h2 : 0 ≤ y) (h3 : y < 256) : bits .or .i64 x (y * 16777216) = x + y * 16777216 := by
  obtain ⟨a, rfl⟩ := Int.eq_ofNat_of_zero_le h0
  obtain ⟨b, rfl⟩ := Int.eq_ofNat_of_zero_le h2
  have h := or_nat 24 a b (by omega) (by omega) (by omega)
  simpa using h

/-- Where a cursor stands. -/
structure Cu where
  s : ByteArray
  i : Nat
  e : Int

/-- The first error of two. -/
def err2 (a b : Int) : Int := if a = 0 then b else a
theorem err2_0 {a : Int} (b : Int) (h : a = 0) : err2 a b = b := if_pos h
theorem err2_1 {a : Int} (b : Int) (h : ¬ a = 0) : err2 a b = a := if_neg h

/-- Its next n bytes, and where it stands behind them. -/
def Cu.fits (c : Cu) (n : Nat) : Bool := c.e == 0 && decide (n ≤ c.s.size - c.i)
def Cu.out (c : Cu) (n : Nat) : ByteArray := if c.fits n then c.s.extract c.i (c.i + n) else ⟨#[]⟩
def Cu.bytes (c : Cu) (n : Nat) : Cu := if c.fits n then ⟨c.s, c.i + n, 0⟩ else ⟨c.s, c.i, err2 c.e 2⟩
def Cu.int (c : Cu) (n : Nat) : Int := beV (c.out n).data.toList

/-- It stands in its text, which is not too long. -/
def Cu.ok (c : Cu) : Prop := c.i ≤ c.s.size ∧ c.s.size ≤ 1099511627776

/-- What it is in memory: a block of three cells of type T. -/
def IsCur (T b : Nat) (c : Cu) (w : World) : Prop := w.heap[b]? = some (.cells #[.string c.s, .int .i64 c.i, .int .i64 c.e] T (0, 0))

/-- Nothing but block b has turned, of what was there. -/
abbrev Only (b : Nat) (w w' : World) : Prop := w.grownBy w' (some b)

theorem Only.refl (b : Nat) (w : World) : Only b w w := ⟨rfl, rfl, rfl, Nat.le_refl _, fun _ _ _ => rfl⟩
theorem Only.trans {b : Nat} {w1 w2 w3 : World} (h : Only b w1 w2) (k : Only b w2 w3) : Only b w1 w3 :=
  ⟨k.os.trans h.os, k.tape.trans h.tape, k.output.trans h.output, Nat.le_trans h.size k.size, fun i hi hne => (k.block i (Nat.lt_of_lt_of_le hi h.size) hne).trans (h.block i hi hne)⟩
theorem Only.of_below {b : Nat} {w w' : World} (h : Below w.heap.size w w') : Only b w w' := ⟨h.os, h.tape, h.output, h.size, fun i hi _ => h.block i hi⟩
theorem Only.drewN {b : Nat} {w w' : World} (h : Only b w w') (n : Nat) : Only b w (w'.drewN n) := ⟨h.os, h.tape, h.output, h.size, h.block⟩
theorem Only.set {b : Nat} {w w' : World} (h : Only b w w') (j : Nat) (v : Value) : Only b w (w'.setCell ⟨b, j, none⟩ v) :=
  ⟨h.os, h.tape, h.output, by simpa [World.setCell] using h.size, fun i hi hne => (Below.heap_setCell w' ⟨b, j, none⟩ v i (by rintro rfl; exact hne rfl)).trans (h.block i hi hne)⟩
theorem Only.alloc {b : Nat} {w w' : World} (h : Only b w w') (o : Obj) : Only b w (w'.alloc o) := h.trans (Only.of_below ((Below.refl _ _).alloc (Nat.le_refl _) _))

theorem IsCur.c0 {T b : Nat} {c : Cu} {w : World} (h : IsCur T b c w) : w.cell? ⟨b, 0, none⟩ = some (.string c.s) := by unfold IsCur at h; simp [World.cell?, h]
theorem IsCur.c1 {T b : Nat} {c : Cu} {w : World} (h : IsCur T b c w) : w.cell? ⟨b, 1, none⟩ = some (.int .i64 c.i) := by unfold IsCur at h; simp [World.cell?, h]
theorem IsCur.c2 {T b : Nat} {c : Cu} {w : World} (h : IsCur T b c w) : w.cell? ⟨b, 2, none⟩ = some (.int .i64 c.e) := by unfold IsCur at h; simp [World.cell?, h]
theorem IsCur.fr {T b : Nat} {c : Cu} {w : World} (h : IsCur T b c w) (j : Nat) : w.frozen? ⟨b, j, none⟩ = false := by unfold IsCur at h; simp [World.frozen?, h]
theorem IsCur.lt {T b : Nat} {c : Cu} {w : World} (h : IsCur T b c w) : b < w.heap.size := by
  rcases Nat.lt_or_ge b w.heap.size with h' | h'
  · exact h'
  · unfold IsCur at h; simp [Array.getElem?_eq_none h'] at h

theorem set_block {b t : Nat} {c : Array Value} {w : World} (h : w.heap[b]? = some (.cells c t (0, 0))) (j : Nat) (v : Value) : (w.setCell ⟨b, j, none⟩ v).heap[b]? = some (.cells (c.setIfInBounds j v) t (0, 0)) := by
  simp [World.setCell, Array.getElem?_modify, h]

theorem IsCur.set1 {T b : Nat} {c : Cu} {w : World} (h : IsCur T b c w) (i : Nat) : IsCur T b ⟨c.s, i, c.e⟩ (w.setCell ⟨b, 1, none⟩ (.int .i64 i)) := set_block h 1 _
theorem IsCur.set2 {T b : Nat} {c : Cu} {w : World} (h : IsCur T b c w) (e : Int) : IsCur T b ⟨c.s, c.i, e⟩ (w.setCell ⟨b, 2, none⟩ (.int .i64 e)) := set_block h 2 _
theorem IsCur.drewN {T b : Nat} {c : Cu} {w : World} (h : IsCur T b c w) (n : Nat) : IsCur T b c (w.drewN n) := h
theorem IsCur.keep {T b : Nat} {c : Cu} {w w' : World} (h : IsCur T b c w) (hb : Below w.heap.size w w') : IsCur T b c w' := (hb.block b h.lt).trans h

theorem Cu.out_size (c : Cu) (hc : c.ok) (n : Nat) : (c.out n).size = if c.fits n then n else 0 := by
  unfold Cu.out
  by_cases h : c.fits n = true
  · have h2 : n ≤ c.s.size - c.i := by simp [Cu.fits] at h; exact h.2
    have := hc.1
    rw [if_pos h, if_pos h, ByteArray.size_extract]
    omega
  · rw [if_neg h, if_neg h]; rfl

theorem Cu.bytes_ok (c : Cu) (hc : c.ok) (n : Nat) : (c.bytes n).ok := by
  unfold Cu.bytes
  by_cases h : c.fits n = true
  · have h2 : n ≤ c.s.size - c.i := by simp [Cu.fits] at h; exact h.2
    rw [if_pos h]
    exact ⟨by have := hc.1; show c.i + n ≤ c.s.size; omega, hc.2⟩
  · rw [if_neg h]
    exact ⟨hc.1, hc.2⟩

/-! ### octets.Cursor -/

set_option maxHeartbeats 400000 in
theorem fail_any (b : Nat) (c : Cu) (e : Int) (w : World) (h : IsCur 163 b c w) :
    Calls Try.prog 127 #[.pointer (some ⟨b, 0, none⟩), .int .i64 e] w fun en w' => en = .returned (.tuple #[]) ∧ IsCur 163 b ⟨c.s, c.i, err2 c.e e⟩ w' ∧ Only b w w' := by
  have h2 := h.c2
  have hf := h.fr 2
  by_cases he : c.e = 0
  · have heb : (c.e == 0) = true := by simp [he]
    rw [err2_0 e he]
    have HC := hide h
    clear he h
    go_enter Try.func127, Try.ntmps127
    go_wp2
    go_end0
    exact ⟨rfl, HC.out.set2 e, (Only.refl _ _).set _ _⟩
  · have heb : (c.e == 0) = false := by simp [he]
    rw [err2_1 e he]
    have HC := hide h
    clear he h
    go_enter Try.func127, Try.ntmps127
    go_wp2
    go_end0
    exact ⟨rfl, HC.out, Only.refl _ _⟩

set_option maxHeartbeats 400000 in
theorem left_any (b : Nat) (c : Cu) (w : World) (h : IsCur 163 b c w) (hok : c.ok) :
    Calls Try.prog 128 #[.pointer (some ⟨b, 0, none⟩)] w fun en w' => en = .returned (.int .i64 ((c.s.size : Int) - c.i)) ∧ ∃ n, w.drewN n = w' := by
  have h0 := h.c0
  have h1 := h.c1
  obtain ⟨a1, a2⟩ := hok
  clear h
  go_enter Try.func128, Try.ntmps128
  go_wp2_with fail
  go_quiet (fail)
  go_wp2
  go_ret
  exact ⟨rfl, _, rfl⟩

theorem Cu.bytes_yes {c : Cu} {n : Nat} (h : c.fits n = true) : c.bytes n = ⟨c.s, c.i + n, 0⟩ := by unfold Cu.bytes; rw [if_pos h]
theorem Cu.bytes_no {c : Cu} {n : Nat} (h : ¬ c.fits n = true) : c.bytes n = ⟨c.s, c.i, err2 c.e 2⟩ := by unfold Cu.bytes; rw [if_neg h]
theorem Cu.out_yes {c : Cu} {n : Nat} (h : c.fits n = true) : c.out n = c.s.extract c.i (c.i + n) := by unfold Cu.out; rw [if_pos h]
theorem Cu.out_no {c : Cu} {n : Nat} (h : ¬ c.fits n = true) : c.out n = ⟨#[]⟩ := by unfold Cu.out; rw [if_neg h]

set_option maxHeartbeats 400000 in
set_option maxRecDepth 100000 in
/-- octets.Cursor.Bytes. -/
theorem bytes_any (b : Nat) (c : Cu) (n : Nat) (w : World) (h : IsCur 163 b c w) (hok : c.ok) (hn : n ≤ 1099511627776) :
    Calls Try.prog 74 #[.pointer (some ⟨b, 0, none⟩), .int .i64 n] w fun en w' => en = .returned (.string (c.out n)) ∧ IsCur 163 b (c.bytes n) w' ∧ Only b w w' := by
  obtain ⟨a1, a2⟩ := id hok
  have hn0 : ¬ (n : Int) < 0 := by omega
  have hL := left_any b c w h hok
  by_cases hf : c.fits n = true
  · rw [Cu.out_yes hf, Cu.bytes_yes hf]
    simp only [Cu.fits, Bool.and_eq_true, beq_iff_eq, decide_eq_true_eq] at hf
    obtain ⟨he, hl⟩ := hf
    have hgt : ¬ ((c.s.size : Int) - c.i < n) := by omega
    have h0 := h.c0
    have h1 := h.c1
    have h2 := h.c2
    have hfr := h.fr 1
    rw [he] at h2
    have HC := hide h
    have HE := hide he
    have HL := hide hL
    clear h he hL hok
    go_enter Try.func74, Try.ntmps74
    go_wp2_with (go_at_call 128; refine HL.out.mono ?_; rintro e w1 ⟨rfl, m, rfl⟩)
    go_quiet (fail)
    go_wp2
    go_ret
    refine ⟨rfl, ?_, (((Only.refl _ _).drewN m).set _ _).drewN nq⟩
    have := ((HC.out.drewN m).set1 (c.i + n)).drewN nq
    rw [HE.out] at this
    exact this
  · rw [Cu.out_no hf, Cu.bytes_no hf]
    have hlt : c.e = 0 → (c.s.size : Int) - c.i < n := by
      intro he
      have : ¬ n ≤ c.s.size - c.i := fun hx => hf (by simp [Cu.fits, he, hx])
      omega
    have HL := hide hL
    clear hf hL hok
    by_cases he : c.e = 0
    · have hgt := hlt he
      rw [err2_0 2 he]
      have hF := fun w (h : IsCur 163 b c w) => fail_any b c 2 w h
      rw [err2_0 2 he] at hF
      have HF := hide hF
      have HC := hide h
      clear he h hlt hF
      go_enter Try.func74, Try.ntmps74
      go_wp2_with (first | (go_at_call 128; refine HL.out.mono ?_; rintro e w1 ⟨rfl, m, rfl⟩) | (go_at_call 127; refine (HF.out _ (HC.out.drewN m)).mono ?_; rintro e w2 ⟨rfl, hc2, ho⟩; have hx2 := hc2.c2))
      go_ret
      exact ⟨rfl, by assumption, ((Only.refl _ _).drewN m).trans (by assumption)⟩
    · rw [err2_1 2 he]
      have hF := fun w (h : IsCur 163 b c w) => fail_any b c 2 w h
      rw [err2_1 2 he] at hF
      have HF := hide hF
      have HC := hide h
      have hxb : (c.e != 0) = true := by simp [he]
      by_cases hgt : (c.s.size : Int) - c.i < n
      · clear he h hlt hF
        go_enter Try.func74, Try.ntmps74
        go_wp2_with (first | (go_at_call 128; refine HL.out.mono ?_; rintro e w1 ⟨rfl, m, rfl⟩) | (go_at_call 127; refine (HF.out _ (HC.out.drewN m)).mono ?_; rintro e w2 ⟨rfl, hc2, ho⟩; have hx2 := hc2.c2))
        go_ret
        exact ⟨rfl, by assumption, ((Only.refl _ _).drewN m).trans (by assumption)⟩
      · have h2 := h.c2
        clear he h hlt hF
        go_enter Try.func74, Try.ntmps74
        go_wp2_with (first | (go_at_call 128; refine HL.out.mono ?_; rintro e w1 ⟨rfl, m, rfl⟩))
        go_ret
        exact ⟨rfl, HC.out.drewN _, (Only.refl _ _).drewN _⟩

end Go.Proofs.Ytodlpofpeoiedaa

/-
  Plain words on a pixel format's parts: how many bits a part has, and whether it may be. No program in sight.
-/
namespace Go.Proofs.Ytodlpofpeoiedaa
open Go.RowKit

/-- How many bits a part has whose greatest value is m: m + 1 is 2 to the k, k from 1 to 16; else 0. -/
def widthOf (m : Int) : Nat := ((List.range 17).find? fun k => decide (1 ≤ k ∧ m + 1 = 2 ^ k)).getD 0

theorem widthOf_spec (m : Int) : (widthOf m = 0 ∧ ∀ k : Nat, 1 ≤ k → k ≤ 16 → m + 1 ≠ 2 ^ k) ∨ (1 ≤ widthOf m ∧ widthOf m ≤ 16 ∧ m + 1 = 2 ^ widthOf m) := by
  unfold widthOf
  cases h : (List.range 17).find? fun k => decide (1 ≤ k ∧ m + 1 = 2 ^ k) with
  | none =>
    left
    refine ⟨rfl, fun k h1 h2 he => ?_⟩
    have := List.find?_eq_none.1 h k (by simp; omega)
    simp only [decide_eq_true_eq] at this
    exact this ⟨h1, he⟩
  | some k =>
    right
    have h1 := List.find?_some h
    have h2 := List.mem_of_find?_eq_some h
    simp only [decide_eq_true_eq] at h1
    simp only [List.mem_range] at h2
    exact ⟨h1.1, by show k ≤ 16; omega, h1.2⟩

theorem pow_inj2 {a b : Nat} (h : (2 : Int) ^ a = 2 ^ b) : a = b := by
  have h' : (2 : Nat) ^ a = 2 ^ b := by
    have e1 : ((2 ^ a : Nat) : Int) = ((2 ^ b : Nat) : Int) := by rw [Int.natCast_pow, Int.natCast_pow]; exact h
    exact Int.ofNat.inj e1
  exact (Nat.pow_right_inj (by decide)).1 h'

theorem widthOf_eq {m : Int} {k : Nat} (h1 : 1 ≤ k) (h2 : k ≤ 16) (h : m + 1 = 2 ^ k) : widthOf m = k := by
  rcases widthOf_spec m with ⟨_, hn⟩ | ⟨_, _, he⟩
  · exact absurd h (hn k h1 h2)
  · exact pow_inj2 (he.symm.trans h)

theorem pow_bd {k : Nat} (h1 : 1 ≤ k) (h2 : k ≤ 16) : (2 : Int) ≤ 2 ^ k ∧ (2 : Int) ^ k ≤ 65536 := by
  have : k = 1 ∨ k = 2 ∨ k = 3 ∨ k = 4 ∨ k = 5 ∨ k = 6 ∨ k = 7 ∨ k = 8 ∨ k = 9 ∨ k = 10 ∨ k = 11 ∨ k = 12 ∨ k = 13 ∨ k = 14 ∨ k = 15 ∨ k = 16 := by omega
  rcases this with h | h | h | h | h | h | h | h | h | h | h | h | h | h | h | h <;> subst h <;> decide

theorem widthOf_out {m : Int} (h : m < 1 ∨ 65535 < m) : widthOf m = 0 := by
  rcases widthOf_spec m with ⟨h0, _⟩ | ⟨a, b, he⟩
  · exact h0
  · have := pow_bd a b
    omega

/-- A number and the next one share no bit: it is a power of two less one. -/
theorem and_next : ∀ m : Nat, m &&& (m + 1) = 0 → ∃ k, m + 1 = 2 ^ k := by
  intro m
  induction m using Nat.strongRecOn with
  | ind m ih =>
    intro h
    by_cases h0 : m = 0
    · exact ⟨0, by omega⟩
    · have hm : m % 2 = 1 := by
        by_cases he : m % 2 = 0
        · exfalso
          have h1 := Nat.and_div_two (a := m) (b := m + 1)
          rw [h] at h1
          have h2 : (m + 1) / 2 = m / 2 := by omega
          rw [h2, Nat.and_self] at h1
          omega
        · omega
      have h1 := Nat.and_div_two (a := m) (b := m + 1)
      rw [h] at h1
      have h2 : (m + 1) / 2 = m / 2 + 1 := by omega
      rw [h2] at h1
      obtain ⟨k, hk⟩ := ih (m / 2) (by omega) (by omega)
      exact ⟨k + 1, by rw [Nat.pow_succ]; omega⟩

theorem bitLen_pow {k : Nat} (h1 : 1 ≤ k) (h2 : k ≤ 16) : Lib.bitLen (2 ^ k - 1) = k := by
  have : k = 1 ∨ k = 2 ∨ k = 3 ∨ k = 4 ∨ k = 5 ∨ k = 6 ∨ k = 7 ∨ k = 8 ∨ k = 9 ∨ k = 10 ∨ k = 11 ∨ k = 12 ∨ k = 13 ∨ k = 14 ∨ k = 15 ∨ k = 16 := by omega
  rcases this with h | h | h | h | h | h | h | h | h | h | h | h | h | h | h | h <;> subst h <;> decide +kernel

theorem width_of_and {m : Int} (h1 : 1 ≤ m) (h2 : m ≤ 65535) (h : bits .and .i64 m (m + 1) = 0) : 1 ≤ widthOf m ∧ Lib.bitLen m.toNat = widthOf m := by
  obtain ⟨x, rfl⟩ := Int.eq_ofNat_of_zero_le (show 0 ≤ m by omega)
  have e : (x : Int) + 1 = ((x + 1 : Nat) : Int) := rfl
  rw [e, and_i64_nat x (x + 1) (by omega) (by omega)] at h
  obtain ⟨k, hk⟩ := and_next x (by omega)
  have hk1 : 1 ≤ k := by
    rcases Nat.eq_zero_or_pos k with h0 | h0
    · subst h0; omega
    · exact h0
  have hk2 : k ≤ 16 := by
    rcases Nat.lt_or_ge 16 k with h0 | h0
    · have : 2 ^ 17 ≤ 2 ^ k := Nat.pow_le_pow_right (by decide) h0
      omega
    · exact h0
  have hw : widthOf (x : Int) = k := widthOf_eq hk1 hk2 (by rw [e, hk, Int.natCast_pow]; rfl)
  rw [hw]
  refine ⟨hk1, ?_⟩
  have : (x : Int).toNat = 2 ^ k - 1 := by rw [Int.toNat_natCast]; omega
  rw [this]
  exact bitLen_pow hk1 hk2

theorem width_no_and {m : Int} (h1 : 1 ≤ m) (h : bits .and .i64 m (m + 1) ≠ 0) : widthOf m = 0 := by
  rcases widthOf_spec m with ⟨h0, _⟩ | ⟨a, b, he⟩
  · exact h0
  · exfalso
    apply h
    have hm : m = 2 ^ widthOf m - 1 := by omega
    generalize widthOf m = k at *
    have : k = 1 ∨ k = 2 ∨ k = 3 ∨ k = 4 ∨ k = 5 ∨ k = 6 ∨ k = 7 ∨ k = 8 ∨ k = 9 ∨ k = 10 ∨ k = 11 ∨ k = 12 ∨ k = 13 ∨ k = 14 ∨ k = 15 ∨ k = 16 := by omega
    rcases this with h | h | h | h | h | h | h | h | h | h | h | h | h | h | h | h <;> subst h <;> subst hm <;> decide +kernel

/-- May a part be, in a value of n bits? -/
def partOk (n m s : Int) : Bool := decide (widthOf m ≠ 0 ∧ 0 ≤ s ∧ s + widthOf m ≤ n)

theorem partOk_iff {n m s : Int} : partOk n m s = true ↔ widthOf m ≠ 0 ∧ 0 ≤ s ∧ s + widthOf m ≤ n := by simp [partOk]

end Go.Proofs.Ytodlpofpeoiedaa

/-
  The contracts of octets.Cursor's numbers (number, Int), At, Err, New.
-/
namespace Go.Proofs.Ytodlpofpeoiedaa
open Go.RowKit

theorem rev_size (s : ByteArray) : (⟨s.data.reverse⟩ : ByteArray).size = s.size := by
  show s.data.reverse.size = s.data.size
  exact Array.size_reverse

theorem byte_bd (b : UInt8) : 0 ≤ (b.toNat : Int) ∧ (b.toNat : Int) < 256 := by have := b.toNat_lt; omega

theorem bytesWorld_only (b : Nat) (w w1 : World) (h : Only b w w1) (s : ByteArray) : Only b w (Lib.bytesWorld w1 5 s) := h.trans (Only.of_below (bytesWorld_below w1 5 s))

/-- A list of bytes that is known to be so long. -/
theorem list1 (l : List UInt8) (h : l.length = 1) : ∃ a, l = [a] := by
  match l, h with
  | [a], _ => exact ⟨a, rfl⟩
theorem list2 (l : List UInt8) (h : l.length = 2) : ∃ a b, l = [a, b] := by
  match l, h with
  | [a, b], _ => exact ⟨a, b, rfl⟩
theorem list4 (l : List UInt8) (h : l.length = 4) : ∃ a b c d, l = [a, b, c, d] := by
  match l, h with
  | [a, b, c, d], _ => exact ⟨a, b, c, d, rfl⟩

theorem hcb (w : World) (s : ByteArray) : (convert 9 114 (.string s)).run Try.prog w = .ok (.slice (some ⟨w.heap.size, 0, none⟩) s.size (grownCap w s.size 0 5)) (Lib.bytesWorld w 5 s) :=
  Lib.run_convert_string_bytes (P := Try.prog) w 9 114 5 s (u := .string) Try.underlying9 Try.underlying114 Try.underlying5

theorem bw_heap (w : World) (s : ByteArray) (j : Nat) (hj : j < w.heap.size) : (Lib.bytesWorld w 5 s).heap[j]? = w.heap[j]? := Lib.bytesWorld_at_old w 5 s j hj

set_option maxHeartbeats 800000 in
set_option maxRecDepth 100000 in
theorem number_0 (b : Nat) (c : Cu) (k : Nat) (hk : k = 1 ∨ k = 2 ∨ k = 4) (w : World) (h : IsCur 163 b c w) (hok : c.ok) (hs : (c.out k).size = 0) :
    Calls Try.prog 125 #[.pointer (some ⟨b, 0, none⟩), .int .i64 k, .func (.func 126) #[] #[]] w fun en w' => en = .returned (.int .i64 (c.int k)) ∧ IsCur 163 b (c.bytes k) w' ∧ Only b w w' := by

  have hv : c.int k = 0 := by
    unfold Cu.int
    have : (c.out k).data.toList = [] := List.length_eq_zero_iff.1 (by rw [Array.length_toList]; exact hs)
    rw [this]
    rfl
  have HV := hide hv
  clear hv


  have hw := wide_yes k w (by omega)
  have hB := bytes_any b c k w h hok (by omega)
  have HS := hide hs
  have HB := hide hB
  have HW := hide hw
  have hsz : (⟨(c.out k).data.reverse⟩ : ByteArray).size = 0 := by rw [rev_size]; exact hs
  have HZ := hide hsz
  clear h hok hs hw hB hsz hk
  go_enter Try.func125, Try.ntmps125
  go_wp2_with (first | (go_at_call 142; refine HW.out.mono ?_; rintro e w0 ⟨rfl, rfl⟩) | (go_at_call 74; refine HB.out.mono ?_; rintro e w1 ⟨rfl, hc1, ho1⟩) | (go_at_call 126; refine (turned_any (c.out k) _ (by rw [HS.out]; decide)).mono ?_; rintro e w2 ⟨rfl, hb2⟩; have hcv := hcb w2 ⟨(c.out k).data.reverse⟩; rw [HZ.out] at hcv))
  refine wp_loop_rounds 1 ?_
  rw [rounds_succ]
  go_wp2
  go_ret
  refine ⟨by rw [HV.out]; rfl, ?_, ?_⟩
  · exact (hc1.keep hb2).keep (bytesWorld_below _ _ _)
  · exact bytesWorld_only _ _ _ (ho1.trans (Only.of_below hb2)) _

set_option maxHeartbeats 800000 in
set_option maxRecDepth 100000 in
theorem number_1 (b : Nat) (c : Cu) (k : Nat) (hk : k = 1 ∨ k = 2 ∨ k = 4) (w : World) (h : IsCur 163 b c w) (hok : c.ok) (hs : (c.out k).size = 1) :
    Calls Try.prog 125 #[.pointer (some ⟨b, 0, none⟩), .int .i64 k, .func (.func 126) #[] #[]] w fun en w' => en = .returned (.int .i64 (c.int k)) ∧ IsCur 163 b (c.bytes k) w' ∧ Only b w w' := by
  obtain ⟨x, hl⟩ := list1 (c.out k).data.toList (by rw [Array.length_toList]; exact hs)
  obtain ⟨bx0, bx1⟩ := byte_bd x
  have hv : c.int k = (x.toNat : Int) := by
    unfold Cu.int
    rw [hl]
    simp [beV]

  have HV := hide hv
  clear hv
  have o0 := or0 (x.toNat : Int) (by omega) (by omega)
  have hg0 : (⟨(c.out k).data.reverse⟩ : ByteArray).data.toList.getD 0 0 = x := by
    show (c.out k).data.reverse.toList.getD 0 0 = _
    rw [Array.toList_reverse, hl]
    rfl
  have HG0 := hide hg0
  clear hg0
  have hw := wide_yes k w (by omega)
  have hB := bytes_any b c k w h hok (by omega)
  have HS := hide hs
  have HB := hide hB
  have HW := hide hw
  have hsz : (⟨(c.out k).data.reverse⟩ : ByteArray).size = 1 := by rw [rev_size]; exact hs
  have HZ := hide hsz
  clear h hok hs hw hB hsz hk hl
  go_enter Try.func125, Try.ntmps125
  go_wp2_with (first | (go_at_call 142; refine HW.out.mono ?_; rintro e w0 ⟨rfl, rfl⟩) | (go_at_call 74; refine HB.out.mono ?_; rintro e w1 ⟨rfl, hc1, ho1⟩) | (go_at_call 126; refine (turned_any (c.out k) _ (by rw [HS.out]; decide)).mono ?_; rintro e w2 ⟨rfl, hb2⟩; have hcv := hcb w2 ⟨(c.out k).data.reverse⟩; rw [HZ.out] at hcv; have c0 := Lib.bytesWorld_cell w2 5 ⟨(c.out k).data.reverse⟩ 0 (by rw [rev_size, HS.out]; decide); rw [HG0.out] at c0))
  refine wp_loop_rounds 2 ?_
  rw [rounds_succ]
  go_wp2
  rw [rounds_succ]
  go_wp2
  go_ret
  refine ⟨by rw [HV.out]; rfl, ?_, ?_⟩
  · exact (hc1.keep hb2).keep (bytesWorld_below _ _ _)
  · exact bytesWorld_only _ _ _ (ho1.trans (Only.of_below hb2)) _

set_option maxHeartbeats 800000 in
set_option maxRecDepth 100000 in
theorem number_2 (b : Nat) (c : Cu) (k : Nat) (hk : k = 1 ∨ k = 2 ∨ k = 4) (w : World) (h : IsCur 163 b c w) (hok : c.ok) (hs : (c.out k).size = 2) :
    Calls Try.prog 125 #[.pointer (some ⟨b, 0, none⟩), .int .i64 k, .func (.func 126) #[] #[]] w fun en w' => en = .returned (.int .i64 (c.int k)) ∧ IsCur 163 b (c.bytes k) w' ∧ Only b w w' := by
  obtain ⟨x, y, hl⟩ := list2 (c.out k).data.toList (by rw [Array.length_toList]; exact hs)
  obtain ⟨bx0, bx1⟩ := byte_bd x
  obtain ⟨by0, by1⟩ := byte_bd y
  have hv : c.int k = (y.toNat : Int) + (x.toNat : Int) * 256 := by
    unfold Cu.int
    rw [hl]
    simp [beV]
    omega
  have HV := hide hv
  clear hv
  have o0 := or0 (y.toNat : Int) (by omega) (by omega)
  have o1 := or8 ((y.toNat : Int)) (x.toNat : Int) (by omega) (by omega) (by omega) (by omega)
  have hg0 : (⟨(c.out k).data.reverse⟩ : ByteArray).data.toList.getD 0 0 = y := by
    show (c.out k).data.reverse.toList.getD 0 0 = _
    rw [Array.toList_reverse, hl]
    rfl
  have HG0 := hide hg0
  clear hg0
  have hg1 : (⟨(c.out k).data.reverse⟩ : ByteArray).data.toList.getD 1 0 = x := by
    show (c.out k).data.reverse.toList.getD 1 0 = _
    rw [Array.toList_reverse, hl]
    rfl
  have HG1 := hide hg1
  clear hg1
  have hw := wide_yes k w (by omega)
  have hB := bytes_any b c k w h hok (by omega)
  have HS := hide hs
  have HB := hide hB
  have HW := hide hw
  have hsz : (⟨(c.out k).data.reverse⟩ : ByteArray).size = 2 := by rw [rev_size]; exact hs
  have HZ := hide hsz
  clear h hok hs hw hB hsz hk hl
  go_enter Try.func125, Try.ntmps125
  go_wp2_with (first | (go_at_call 142; refine HW.out.mono ?_; rintro e w0 ⟨rfl, rfl⟩) | (go_at_call 74; refine HB.out.mono ?_; rintro e w1 ⟨rfl, hc1, ho1⟩) | (go_at_call 126; refine (turned_any (c.out k) _ (by rw [HS.out]; decide)).mono ?_; rintro e w2 ⟨rfl, hb2⟩; have hcv := hcb w2 ⟨(c.out k).data.reverse⟩; rw [HZ.out] at hcv; have c0 := Lib.bytesWorld_cell w2 5 ⟨(c.out k).data.reverse⟩ 0 (by rw [rev_size, HS.out]; decide); rw [HG0.out] at c0; have c1 := Lib.bytesWorld_cell w2 5 ⟨(c.out k).data.reverse⟩ 1 (by rw [rev_size, HS.out]; decide); rw [HG1.out] at c1))
  refine wp_loop_rounds 3 ?_
  rw [rounds_succ]
  go_wp2
  rw [rounds_succ]
  go_wp2
  rw [rounds_succ]
  go_wp2
  go_ret
  refine ⟨by rw [HV.out]; rfl, ?_, ?_⟩
  · exact (hc1.keep hb2).keep (bytesWorld_below _ _ _)
  · exact bytesWorld_only _ _ _ (ho1.trans (Only.of_below hb2)) _

set_option maxHeartbeats 800000 in
set_option maxRecDepth 100000 in
theorem number_4 (b : Nat) (c : Cu) (k : Nat) (hk : k = 1 ∨ k = 2 ∨ k = 4) (w : World) (h : IsCur 163 b c w) (hok : c.ok) (hs : (c.out k).size = 4) :
    Calls Try.prog 125 #[.pointer (some ⟨b, 0, none⟩), .int .i64 k, .func (.func 126) #[] #[]] w fun en w' => en = .returned (.int .i64 (c.int k)) ∧ IsCur 163 b (c.bytes k) w' ∧ Only b w w' := by
  obtain ⟨x, y, z, u, hl⟩ := list4 (c.out k).data.toList (by rw [Array.length_toList]; exact hs)
  obtain ⟨bx0, bx1⟩ := byte_bd x
  obtain ⟨by0, by1⟩ := byte_bd y
  obtain ⟨bz0, bz1⟩ := byte_bd z
  obtain ⟨bu0, bu1⟩ := byte_bd u
  have hv : c.int k = (u.toNat : Int) + (z.toNat : Int) * 256 + (y.toNat : Int) * 65536 + (x.toNat : Int) * 16777216 := by
    unfold Cu.int
    rw [hl]
    simp [beV]
    omega
  have HV := hide hv
  clear hv
  have o0 := or0 (u.toNat : Int) (by omega) (by omega)
  have o1 := or8 ((u.toNat : Int)) (z.toNat : Int) (by omega) (by omega) (by omega) (by omega)
  have o2 := or16 ((u.toNat : Int) + (z.toNat : Int) * 256) (y.toNat : Int) (by omega) (by omega) (by omega) (by omega)
  have o3 := or24 ((u.toNat : Int) + (z.toNat : Int) * 256 + (y.toNat : Int) * 65536) (x.toNat : Int) (by omega) (by omega) (by omega) (by omega)
  have hg0 : (⟨(c.out k).data.reverse⟩ : ByteArray).data.toList.getD 0 0 = u := by
    show (c.out k).data.reverse.toList.getD 0 0 = _
    rw [Array.toList_reverse, hl]
    rfl
  have HG0 := hide hg0
  clear hg0
  have hg1 : (⟨(c.out k).data.reverse⟩ : ByteArray).data.toList.getD 1 0 = z := by
    show (c.out k).data.reverse.toList.getD 1 0 = _
    rw [Array.toList_reverse, hl]
    rfl
  have HG1 := hide hg1
  clear hg1
  have hg2 : (⟨(c.out k).data.reverse⟩ : ByteArray).data.toList.getD 2 0 = y := by
    show (c.out k).data.reverse.toList.getD 2 0 = _
    rw [Array.toList_reverse, hl]
    rfl
  have HG2 := hide hg2
  clear hg2
  have hg3 : (⟨(c.out k).data.reverse⟩ : ByteArray).data.toList.getD 3 0 = x := by
    show (c.out k).data.reverse.toList.getD 3 0 = _
    rw [Array.toList_reverse, hl]
    rfl
  have HG3 := hide hg3
  clear hg3
  have hw := wide_yes k w (by omega)
  have hB := bytes_any b c k w h hok (by omega)
  have HS := hide hs
  have HB := hide hB
  have HW := hide hw
  have hsz : (⟨(c.out k).data.reverse⟩ : ByteArray).size = 4 := by rw [rev_size]; exact hs
  have HZ := hide hsz
  clear h hok hs hw hB hsz hk hl
  go_enter Try.func125, Try.ntmps125
  go_wp2_with (first | (go_at_call 142; refine HW.out.mono ?_; rintro e w0 ⟨rfl, rfl⟩) | (go_at_call 74; refine HB.out.mono ?_; rintro e w1 ⟨rfl, hc1, ho1⟩) | (go_at_call 126; refine (turned_any (c.out k) _ (by rw [HS.out]; decide)).mono ?_; rintro e w2 ⟨rfl, hb2⟩; have hcv := hcb w2 ⟨(c.out k).data.reverse⟩; rw [HZ.out] at hcv; have c0 := Lib.bytesWorld_cell w2 5 ⟨(c.out k).data.reverse⟩ 0 (by rw [rev_size, HS.out]; decide); rw [HG0.out] at c0; have c1 := Lib.bytesWorld_cell w2 5 ⟨(c.out k).data.reverse⟩ 1 (by rw [rev_size, HS.out]; decide); rw [HG1.out] at c1; have c2 := Lib.bytesWorld_cell w2 5 ⟨(c.out k).data.reverse⟩ 2 (by rw [rev_size, HS.out]; decide); rw [HG2.out] at c2; have c3 := Lib.bytesWorld_cell w2 5 ⟨(c.out k).data.reverse⟩ 3 (by rw [rev_size, HS.out]; decide); rw [HG3.out] at c3))
  refine wp_loop_rounds 5 ?_
  rw [rounds_succ]
  go_wp2
  rw [rounds_succ]
  go_wp2
  rw [rounds_succ]
  go_wp2
  rw [rounds_succ]
  go_wp2
  rw [rounds_succ]
  go_wp2
  go_ret
  refine ⟨by rw [HV.out]; rfl, ?_, ?_⟩
  · exact (hc1.keep hb2).keep (bytesWorld_below _ _ _)
  · exact bytesWorld_only _ _ _ (ho1.trans (Only.of_below hb2)) _

end Go.Proofs.Ytodlpofpeoiedaa

/-
  The contracts of octets.Cursor.Int, At, Err and octets.New, and of miradorref01.Cursor's Bytes and Int.
-/
namespace Go.Proofs.Ytodlpofpeoiedaa
open Go.RowKit

theorem number_any (b : Nat) (c : Cu) (k : Nat) (hk : k = 1 ∨ k = 2 ∨ k = 4) (w : World) (h : IsCur 163 b c w) (hok : c.ok) :
    Calls Try.prog 125 #[.pointer (some ⟨b, 0, none⟩), .int .i64 k, .func (.func 126) #[] #[]] w fun en w' => en = .returned (.int .i64 (c.int k)) ∧ IsCur 163 b (c.bytes k) w' ∧ Only b w w' := by
  have hs := Cu.out_size c hok k
  by_cases hf : c.fits k = true
  · rw [if_pos hf] at hs
    rcases hk with rfl | rfl | rfl
    · exact number_1 b c 1 (by simp) w h hok hs
    · exact number_2 b c 2 (by simp) w h hok hs
    · exact number_4 b c 4 (by simp) w h hok hs
  · rw [if_neg hf] at hs
    exact number_0 b c k hk w h hok hs

set_option maxHeartbeats 400000 in
/-- octets.Cursor.Int. -/
theorem int_any (b : Nat) (c : Cu) (k : Nat) (hk : k = 1 ∨ k = 2 ∨ k = 4) (w : World) (h : IsCur 163 b c w) (hok : c.ok) :
    Calls Try.prog 73 #[.pointer (some ⟨b, 0, none⟩), .int .i64 k] w fun en w' => en = .returned (.int .i64 (c.int k)) ∧ IsCur 163 b (c.bytes k) w' ∧ Only b w w' := by
  have HN := hide (number_any b c k hk w h hok)
  clear hk h hok
  go_enter Try.func73, Try.ntmps73
  go_wp2_with (go_at_call 125; refine HN.out.mono ?_; rintro e w0 ⟨rfl, hc, ho⟩)
  go_ret
  exact ⟨rfl, by assumption, by assumption⟩

set_option maxHeartbeats 400000 in
theorem at_any (b : Nat) (c : Cu) (w : World) (h : IsCur 163 b c w) :
    Calls Try.prog 90 #[.pointer (some ⟨b, 0, none⟩)] w fun en w' => en = .returned (.int .i64 c.i) ∧ w = w' := by
  have h1 := h.c1
  clear h
  go_enter Try.func90, Try.ntmps90
  go_wp2
  go_ret
  exact ⟨rfl, rfl⟩

set_option maxHeartbeats 400000 in
theorem err_any (b : Nat) (c : Cu) (w : World) (h : IsCur 163 b c w) :
    Calls Try.prog 75 #[.pointer (some ⟨b, 0, none⟩)] w fun en w' => en = .returned (.int .i64 c.e) ∧ w = w' := by
  have h2 := h.c2
  clear h
  go_enter Try.func75, Try.ntmps75
  go_wp2
  go_ret
  exact ⟨rfl, rfl⟩

set_option maxHeartbeats 400000 in
theorem new_any (s : ByteArray) (w : World) :
    Calls Try.prog 72 #[.string s] w fun en w' => en = .returned (.pointer (some ⟨w.heap.size, 0, none⟩)) ∧ IsCur 163 w.heap.size ⟨s, 0, 0⟩ w' ∧ Below w.heap.size w w' ∧ w'.heap.size = w.heap.size + 1 := by
  go_enter Try.func72, Try.ntmps72
  go_wp2
  go_ret
  exact ⟨rfl, heap_alloc_new w _, (Below.refl _ _).alloc (Nat.le_refl _) _, by simp⟩

/-! ### miradorref01.Cursor -/

set_option maxHeartbeats 400000 in
set_option maxRecDepth 100000 in
theorem rbytes_any (b : Nat) (c : Cu) (n : Nat) (w : World) (h : IsCur 152 b c w) (hok : c.ok) (hn : n ≤ 1099511627776) :
    Calls Try.prog 120 #[.pointer (some ⟨b, 0, none⟩), .int .i64 n] w fun en w' => en = .returned (.string (c.out n)) ∧ IsCur 152 b (c.bytes n) w' ∧ Only b w w' := by
  obtain ⟨a1, a2⟩ := id hok
  have hn0 : ¬ (n : Int) < 0 := by omega
  have h0 := h.c0
  have h1 := h.c1
  have h2 := h.c2
  have hfr1 := h.fr 1
  have hfr2 := h.fr 2
  by_cases hf : c.fits n = true
  · rw [Cu.out_yes hf, Cu.bytes_yes hf]
    simp only [Cu.fits, Bool.and_eq_true, beq_iff_eq, decide_eq_true_eq] at hf
    obtain ⟨he, hl⟩ := hf
    have hgt : ¬ ((c.s.size : Int) - c.i < n) := by omega
    rw [he] at h2
    have HC := hide h
    have HE := hide he
    clear h he hok
    go_enter Try.func120, Try.ntmps120
    go_wp2_with fail
    go_quiet (fail)
    go_wp2_with fail
    go_quiet (fail)
    go_wp2
    go_ret
    refine ⟨rfl, ?_, ?_⟩
    · have := ((HC.out.drewN 0).set1 (c.i + n)).drewN 0
      rw [HE.out] at this
      exact this
    · exact ((Only.refl _ _).set 1 (.int .i64 (c.i + n : Nat))).drewN _
  · rw [Cu.out_no hf, Cu.bytes_no hf]
    by_cases he : c.e = 0
    · have hgt : (c.s.size : Int) - c.i < n := by
        have : ¬ n ≤ c.s.size - c.i := fun hx => hf (by simp [Cu.fits, he, hx])
        omega
      rw [err2_0 2 he]
      rw [he] at h2
      have HC := hide h
      clear h he hok hf
      go_enter Try.func120, Try.ntmps120
      go_wp2_with fail
      go_quiet (fail)
      go_wp2
      go_ret
      exact ⟨rfl, (HC.out.set2 2).drewN _, ((Only.refl _ _).set 2 _).drewN _⟩
    · rw [err2_1 2 he]
      have hxb : (c.e != 0) = true := by simp [he]
      have HC := hide h
      clear h he hok hf
      go_enter Try.func120, Try.ntmps120
      go_wp2
      go_ret
      exact ⟨rfl, HC.out, Only.refl _ _⟩

set_option maxHeartbeats 400000 in
/-- miradorref01.Cursor.Int. -/
theorem rcint_any (b : Nat) (c : Cu) (k : Nat) (hk : k = 1 ∨ k = 2 ∨ k = 4) (w : World) (h : IsCur 152 b c w) (hok : c.ok) :
    Calls Try.prog 114 #[.pointer (some ⟨b, 0, none⟩), .int .i64 k] w fun en w' => en = .returned (.int .i64 (c.int k)) ∧ IsCur 152 b (c.bytes k) w' ∧ Only b w w' := by
  have hsz : (c.out k).size ≤ 7 := by
    have := Cu.out_size c hok k
    rw [this]
    split <;> omega
  have HB := hide (rbytes_any b c k w h hok (by omega))
  have HI := hide (fun w => rint_any (c.out k) w hsz)
  have HY := hide (size_yes k w (by omega))
  have h2 := h.c2
  have hv : c.int k = beV (c.out k).data.toList := rfl
  have HV := hide hv
  clear hv hsz
  by_cases he : c.e = 0
  · have heb : (c.e == 0) = true := by simp [he]
    clear hk h hok he
    go_enter Try.func114, Try.ntmps114
    go_wp2_with (first | (go_at_call 132; refine HY.out.mono ?_; rintro e w0 ⟨rfl, rfl⟩) | (go_at_call 120; refine HB.out.mono ?_; rintro e w0 ⟨rfl, hc, ho⟩) | (go_at_call 76; refine (HI.out _).mono ?_; rintro e w0 ⟨rfl, rfl⟩))
    go_ret
    exact ⟨rfl, by assumption, by assumption⟩
  · have heb : (c.e == 0) = false := by simp [he]
    clear hk h hok
    go_enter Try.func114, Try.ntmps114
    go_wp2_with (first | (go_at_call 132; refine HY.out.mono ?_; rintro e w0 ⟨rfl, rfl⟩) | (go_at_call 120; refine HB.out.mono ?_; rintro e w0 ⟨rfl, hc, ho⟩) | (go_at_call 76; refine (HI.out _).mono ?_; rintro e w0 ⟨rfl, rfl⟩))
    go_ret
    exact ⟨rfl, by assumption, by assumption⟩

end Go.Proofs.Ytodlpofpeoiedaa

/-
  The contract of math/bits.Len, out of the library's own, which is proved over any program.
-/
namespace Go.Proofs.Ytodlpofpeoiedaa
open Go.Shelf
def lays125ren : Go.Shelf.Ren := ⟨fun | 125 => 129 | 128 => 143 | 129 => 144 | n => n, fun | 46 => 125 | 3 => 3 | 51 => 173 | 53 => 176 | 4 => 4 | 5 => 5 | 9 => 9 | n => n, fun | n => n⟩
theorem lays125 : Go.Proofs.Lays.n125 Try.prog lays125ren := {
  mixed := by kernel_rfl
  f125 := Try.func129.trans (congrArg some (by kernel_rfl))
  f128 := Try.func143.trans (congrArg some (by kernel_rfl))
  f129 := Try.func144.trans (congrArg some (by kernel_rfl))
  t3 := Try.underlying3
  a3 := Try.isAgg3
  z3 := Try.sizeOf3
  v3 := Try.zeroValue3
  t4 := Try.underlying4
  a4 := Try.isAgg4
  z4 := Try.sizeOf4
  v4 := Try.zeroValue4
  t5 := Try.underlying5
  a5 := Try.isAgg5
  z5 := Try.sizeOf5
  v5 := Try.zeroValue5
  t9 := Try.underlying9
  a9 := Try.isAgg9
  z9 := Try.sizeOf9
  v9 := Try.zeroValue9
  t46 := Try.underlying125
  a46 := Try.isAgg125
  z46 := Try.sizeOf125
  v46 := Try.zeroValue125
  t51 := Try.underlying173
  a51 := Try.isAgg173
  z51 := Try.sizeOf173
  v51 := Try.zeroValue173
  t53 := Try.underlying176
  a53 := Try.isAgg176
  z53 := Try.sizeOf176
  v53 := Try.zeroValue176 }
theorem bits_Len (x : Int) (w : World) (h0 : 0 ≤ x) (h1 : x ≤ 18446744073709551615) :
    Calls Try.prog 129 #[.int .u64 x] w fun e w' => e = .returned (.int .i64 (Lib.bitLen x.toNat)) ∧ w' = w := Any.bits_Len lays125 x w h0 h1
end Go.Proofs.Ytodlpofpeoiedaa

/-
  The contracts of the parts of a pixel format, in the program and in the document's answer: right, mask, parts; Width, part, mask; bit, flag; Standard.
-/
namespace Go.Proofs.Ytodlpofpeoiedaa
open Go.RowKit

theorem below_drewN {B : Nat} {a w : World} (h : Below B a w) (n : Nat) : Below B a (w.drewN n) := ⟨h.os, h.tape, h.output, h.size, h.block⟩

set_option maxHeartbeats 400000 in
/-- format.part.right. -/
theorem right_any (m s n : Int) (w : World) (hn : n = 8 ∨ n = 16 ∨ n = 32) (hs : s ≤ 9223372036854775807) :
    Calls Try.prog 78 #[.agg #[.int .i64 m, .int .i64 s], .int .i64 n] w fun e w' => e = .returned (.bool (partOk n m s)) ∧ Below w.heap.size w w' := by
  have no : widthOf m = 0 → partOk n m s = false := fun h => by simp [partOk, h]
  by_cases c1 : m < 1
  · rw [no (widthOf_out (.inl c1))]
    clear no hn hs
    go_enter Try.func78, Try.ntmps78
    go_wp2
    go_ret
    exact ⟨rfl, (Below.refl _ _).alloc (Nat.le_refl _) _⟩
  by_cases c2 : 65535 < m
  · rw [no (widthOf_out (.inr c2))]
    clear no hn hs
    go_enter Try.func78, Try.ntmps78
    go_wp2
    go_ret
    exact ⟨rfl, (Below.refl _ _).alloc (Nat.le_refl _) _⟩
  by_cases c3 : bits .and .i64 m (m + 1) = 0
  · obtain ⟨hw1, hw2⟩ := width_of_and (by omega) (by omega) c3
    have hb3 : (bits .and .i64 m (m + 1) != 0) = false := by simp [c3]
    by_cases c4 : s < 0
    · have : partOk n m s = false := by simp [partOk]; omega
      rw [this]
      clear no hn hs c3 hw1 hw2 this
      go_enter Try.func78, Try.ntmps78
      go_wp2
      go_ret
      exact ⟨rfl, (Below.refl _ _).alloc (Nat.le_refl _) _⟩
    by_cases c5 : n < s
    · have : partOk n m s = false := by simp [partOk]; omega
      rw [this]
      clear no hn hs c3 hw1 hw2 this
      go_enter Try.func78, Try.ntmps78
      go_wp2
      go_ret
      exact ⟨rfl, (Below.refl _ _).alloc (Nat.le_refl _) _⟩
    · have hp : partOk n m s = decide (s + (Lib.bitLen m.toNat : Int) ≤ n) := by
        rw [hw2, Bool.eq_iff_iff]
        simp only [partOk, decide_eq_true_eq]
        omega
      rw [hp]
      have hbl : Lib.bitLen m.toNat ≤ 64 := Lib.bitLen_le m.toNat 64 (by omega) (by omega)
      clear no hs c3 hw1 hw2 hp
      have hn' : n ≤ 32 := by omega
      have hn'' : 8 ≤ n := by omega
      clear hn
      go_enter Try.func78, Try.ntmps78
      go_wp2_with fail
      go_quiet ((go_at_call 129; exact Calls.quiet_of_same (bits_Len _ _ (by omega) (by omega))))
      go_wp2
      go_ret
      exact ⟨rfl, below_drewN ((Below.refl _ _).alloc (Nat.le_refl _) _) _⟩
  · rw [no (width_no_and (by omega) c3)]
    have hb3 : (bits .and .i64 m (m + 1) != 0) = true := by simp [c3]
    clear no hn hs c3
    go_enter Try.func78, Try.ntmps78
    go_wp2
    go_ret
    exact ⟨rfl, (Below.refl _ _).alloc (Nat.le_refl _) _⟩

set_option maxHeartbeats 400000 in
/-- format.part.mask. -/
theorem mask_any (m s : Int) (w : World) (h0 : 0 ≤ m) (h1 : m ≤ 65535) (h2 : 0 ≤ s) (h3 : s ≤ 32) :
    Calls Try.prog 79 #[.agg #[.int .i64 m, .int .i64 s]] w fun e w' => e = .returned (.int .i64 (m * 2 ^ s.toNat)) ∧ Below w.heap.size w w' := by
  obtain ⟨k, rfl⟩ := Int.eq_ofNat_of_zero_le h2
  have hk : k ≤ 32 := by omega
  have hp : (2 : Int) ^ k ≤ 4294967296 := by
    have : (2 ^ k : Nat) ≤ 2 ^ 32 := Nat.pow_le_pow_right (by decide) hk
    have e : ((2 ^ k : Nat) : Int) = (2 : Int) ^ k := Int.natCast_pow 2 k
    omega
  have hp0 : (0 : Int) < 2 ^ k := Int.pow_pos (by decide)
  have h4 : 0 ≤ m * 2 ^ k := Int.mul_nonneg h0 (by omega)
  have h5 : m * 2 ^ k ≤ 65535 * 4294967296 := Int.mul_le_mul h1 hp (by omega) (by omega)
  have hmin : min k 64 = k := by omega
  go_enter Try.func79, Try.ntmps79
  go_wp2
  go_ret
  exact ⟨by first | rfl | simp [hmin], (Below.refl _ _).alloc (Nat.le_refl _) _⟩

set_option maxHeartbeats 400000 in
/-- miradorref13.mask. -/
theorem rmask_any (m s : Int) (w : World) (h0 : 0 ≤ m) (h1 : m ≤ 65535) (h2 : 0 ≤ s) (h3 : s ≤ 32) :
    Calls Try.prog 81 #[.int .i64 m, .int .i64 s] w fun e w' => e = .returned (.int .i64 (m * 2 ^ s.toNat)) ∧ w = w' := by
  obtain ⟨k, rfl⟩ := Int.eq_ofNat_of_zero_le h2
  have hk : k ≤ 32 := by omega
  have hp : (2 : Int) ^ k ≤ 4294967296 := by
    have : (2 ^ k : Nat) ≤ 2 ^ 32 := Nat.pow_le_pow_right (by decide) hk
    have e : ((2 ^ k : Nat) : Int) = (2 : Int) ^ k := Int.natCast_pow 2 k
    omega
  have hp0 : (0 : Int) < 2 ^ k := Int.pow_pos (by decide)
  have h4 : 0 ≤ m * 2 ^ k := Int.mul_nonneg h0 (by omega)
  have h5 : m * 2 ^ k ≤ 65535 * 4294967296 := Int.mul_le_mul h1 hp (by omega) (by omega)
  have hmin : min k 64 = k := by omega
  go_enter Try.func81, Try.ntmps81
  go_wp2
  go_ret
  exact ⟨by first | rfl | simp [hmin], rfl⟩

set_option maxHeartbeats 400000 in
theorem bit_any (b : Bool) (w : World) : Calls Try.prog 82 #[.bool b] w fun e w' => e = .returned (.int .i64 (if b then 1 else 0)) ∧ w = w' := by
  cases b
  all_goals
    go_enter Try.func82, Try.ntmps82
    go_wp2
    go_ret
    exact ⟨rfl, rfl⟩

set_option maxHeartbeats 400000 in
theorem flag_any (b : Bool) (w : World) : Calls Try.prog 84 #[.bool b] w fun e w' => e = .returned (.int .i64 (if b then 1 else 0)) ∧ w = w' := by
  cases b
  all_goals
    go_enter Try.func84, Try.ntmps84
    go_wp2
    go_ret
    exact ⟨rfl, rfl⟩

set_option maxHeartbeats 400000 in
/-- miradorref13.Width. -/
theorem width_any (m : Int) (w : World) : Calls Try.prog 130 #[.int .i64 m] w fun e w' => e = .returned (.int .i64 (widthOf m)) ∧ w = w' := by
  have hsp := widthOf_spec m
  have HS := hide hsp
  clear hsp
  go_enter Try.func130, Try.ntmps130
  go_wp2
  go_loop [3, 4] (fun p k => ∃ j : Nat, j ≤ 16 ∧ k = .int .i64 ((j : Int) + 1) ∧ p = .int .i64 (2 ^ j) ∧ ∀ i : Nat, 1 ≤ i → i ≤ j → m + 1 ≠ 2 ^ i) (fun _ k => (17 - intOf k).toNat)
  case atStart => exact ⟨0, by omega, rfl, rfl, fun i h1 h2 => by omega⟩
  case round =>
    obtain ⟨j, hj, rfl, rfl, hno⟩ := hrel
    have HN := hide hno
    clear hno
    by_cases hlt : j < 16
    · have hp : (2 : Int) ^ j ≤ 65536 := by
        have : (2 ^ j : Nat) ≤ 2 ^ 16 := Nat.pow_le_pow_right (by decide) (by omega)
        have e : ((2 ^ j : Nat) : Int) = (2 : Int) ^ j := Int.natCast_pow 2 j
        omega
      have hp0 : (0 : Int) < 2 ^ j := Int.pow_pos (by decide)
      have HE : Hid ((2 : Int) ^ (j + 1) = 2 ^ j * 2) := Int.pow_succ 2 j
      by_cases he : m = 2 ^ j * 2 - 1
      · have hb : (m == 2 ^ j * 2 - 1) = true := by simp [he]
        have HW : Hid (widthOf m = j + 1) := widthOf_eq (by omega) (by omega) (by rw [HE.out]; omega)
        clear he
        go_wp2
        go_ret
        exact ⟨by rw [HW.out]; rfl, rfl⟩
      · have hb : (m == 2 ^ j * 2 - 1) = false := by simp [he]
        have HK := hide he
        clear he
        go_wp2
        go_round
        case rel => exact ⟨j + 1, by omega, by go_num, by rw [HE.out], fun i h1 h2 => by
            rcases Nat.lt_or_ge j i with h3 | h3
            · obtain rfl : i = j + 1 := by omega
              have := HK.out
              rw [HE.out]
              omega
            · exact HN.out i h1 h3⟩
        case measure => simp [intOf]; omega
    · have HW : Hid (widthOf m = 0) := by
        rcases HS.out with ⟨h0, _⟩ | ⟨a, b, he⟩
        · exact h0
        · exact absurd he (HN.out _ a (by omega))
      go_wp2
      go_ret
      exact ⟨by rw [HW.out]; rfl, rfl⟩

set_option maxHeartbeats 400000 in
/-- miradorref13.part. -/
theorem rpart_any (m s n : Int) (w : World) (hn : n = 8 ∨ n = 16 ∨ n = 32) :
    Calls Try.prog 80 #[.int .i64 n, .int .i64 m, .int .i64 s] w fun e w' => e = .returned (.bool (partOk n m s)) ∧ w = w' := by
  have hW := width_any m
  have hb : widthOf m ≤ 16 := by rcases widthOf_spec m with ⟨h0, _⟩ | ⟨_, b, _⟩ <;> omega
  have hp : partOk n m s = decide (widthOf m ≠ 0 ∧ 0 ≤ s ∧ s + widthOf m ≤ n) := rfl
  generalize widthOf m = k at *
  have HW := hide hW
  clear hW
  have hn' : n ≤ 32 := by omega
  clear hn
  by_cases c1 : k = 0
  · have : partOk n m s = false := by rw [hp]; simp [c1]
    rw [this]
    subst c1
    clear hp this
    go_enter Try.func80, Try.ntmps80
    go_wp2_with (go_at_call 130; refine (HW.out _).mono ?_; rintro e w' ⟨rfl, rfl⟩)
    go_ret
    exact ⟨rfl, rfl⟩
  by_cases c2 : s < 0
  · have : partOk n m s = false := by rw [hp]; simp; omega
    rw [this]
    clear hp this
    have c1' : 0 < k := by omega
    go_enter Try.func80, Try.ntmps80
    go_wp2_with (go_at_call 130; refine (HW.out _).mono ?_; rintro e w' ⟨rfl, rfl⟩)
    go_ret
    exact ⟨rfl, rfl⟩
  by_cases c3 : 32 < s
  · have : partOk n m s = false := by rw [hp]; simp; omega
    rw [this]
    clear hp this
    have c1' : 0 < k := by omega
    go_enter Try.func80, Try.ntmps80
    go_wp2_with (go_at_call 130; refine (HW.out _).mono ?_; rintro e w' ⟨rfl, rfl⟩)
    go_ret
    exact ⟨rfl, rfl⟩
  · have : partOk n m s = decide (s + (k : Int) ≤ n) := by
      rw [hp, Bool.eq_iff_iff]
      simp only [decide_eq_true_eq]
      omega
    rw [this]
    clear hp this
    have c1' : 0 < k := by omega
    go_enter Try.func80, Try.ntmps80
    go_wp2_with (go_at_call 130; refine (HW.out _).mono ?_; rintro e w' ⟨rfl, rfl⟩)
    go_ret
    exact ⟨rfl, rfl⟩

end Go.Proofs.Ytodlpofpeoiedaa

/-
  A pixel format: when it may be, and the contracts of Valid in the program and in the document's answer; Standard.
-/
namespace Go.Proofs.Ytodlpofpeoiedaa
open Go.RowKit

/-- A pixel format. -/
structure Fmt where
  bits : Int
  depth : Int
  big : Bool
  tru : Bool
  rm : Int
  gm : Int
  bm : Int
  rs : Int
  gs : Int
  bs : Int

abbrev fmtC (f : Fmt) : Array Value := #[.int .i64 f.bits, .int .i64 f.depth, .bool f.big, .bool f.tru, .int .i64 f.rm, .int .i64 f.gm, .int .i64 f.bm, .int .i64 f.rs, .int .i64 f.gs, .int .i64 f.bs]
abbrev fmtV (f : Fmt) : Value := .agg (fmtC f)

/-- A part's bits. -/
def mk (m s : Int) : Int := m * 2 ^ s.toNat

def apart (f : Fmt) : Bool := bits .and .i64 (mk f.rm f.rs) (mk f.gm f.gs) == 0 && bits .and .i64 (mk f.rm f.rs) (mk f.bm f.bs) == 0 && bits .and .i64 (mk f.gm f.gs) (mk f.bm f.bs) == 0
def headOk (f : Fmt) : Bool := decide ((f.bits = 8 ∨ f.bits = 16 ∨ f.bits = 32) ∧ 1 ≤ f.depth ∧ f.depth ≤ f.bits ∧ f.tru = true)
/-- May a format be? -/
def validB (f : Fmt) : Bool := headOk f && partOk f.bits f.rm f.rs && partOk f.bits f.gm f.gs && partOk f.bits f.bm f.bs && apart f

def stdF : Fmt := ⟨32, 24, false, true, 255, 255, 255, 16, 8, 0⟩

set_option maxHeartbeats 400000 in
theorem standard_any (w : World) : Calls Try.prog 21 #[] w fun e w' => e = .returned (.agg #[.int .i64 32, .int .i64 24, .bool false, .bool true, .int .i64 255, .int .i64 255, .int .i64 255, .int .i64 16, .int .i64 8, .int .i64 0]) ∧ Below w.heap.size w w' := by
  go_enter Try.func21, Try.ntmps21
  go_wp2
  go_outline
  exact bodyPost_ret (v := .agg #[.int .i64 32, .int .i64 24, .bool false, .bool true, .int .i64 255, .int .i64 255, .int .i64 255, .int .i64 16, .int .i64 8, .int .i64 0]) (by simp [results, Try.results21, go_sem]) rfl ⟨rfl, (Below.refl _ _).alloc (Nat.le_refl _) _⟩

set_option maxHeartbeats 400000 in
theorem parts_any (a b : Int) (c d : Bool) (rm gm bm rs gs bs : Int) (w : World) :
    Calls Try.prog 77 #[.agg #[.int .i64 a, .int .i64 b, .bool c, .bool d, .int .i64 rm, .int .i64 gm, .int .i64 bm, .int .i64 rs, .int .i64 gs, .int .i64 bs]] w
      fun e w' => e = .returned (.agg #[.int .i64 rm, .int .i64 rs, .int .i64 gm, .int .i64 gs, .int .i64 bm, .int .i64 bs]) ∧ Below w.heap.size w w' := by
  go_enter Try.func77, Try.ntmps77
  go_wp2
  go_outline
  exact bodyPost_ret (v := .agg #[.int .i64 rm, .int .i64 rs, .int .i64 gm, .int .i64 gs, .int .i64 bm, .int .i64 bs]) (by simp [results, Try.results77, go_sem]) rfl ⟨rfl, ((Below.refl _ _).alloc (Nat.le_refl _) _).alloc (by simp) _⟩

end Go.Proofs.Ytodlpofpeoiedaa
