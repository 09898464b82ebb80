/-
  Compact, CPut, CGet of a format that may be; miradorref01.Turned.
-/
import Derived.Test.YtodlpofpeoiedaaAE
namespace Go.Proofs.Ytodlpofpeoiedaa
open Go.RowKit Go.Sort

/-- All of a format's bits that a colour's value may have. -/
def allM (f : Fmt) : Int := f.rm * 2 ^ f.rs.toNat + f.gm * 2 ^ f.gs.toNat + f.bm * 2 ^ f.bs.toNat
/-- How many bytes a value needs, and its shift. -/
def compS (f : Fmt) : Nat := if f.bits < 32 ∨ 24 < f.depth then sizeN f else if allM f < 16777216 then 3 else if allM f % 256 = 0 then 3 else sizeN f
def compH (f : Fmt) : Nat := if f.bits < 32 ∨ 24 < f.depth then 0 else if allM f < 16777216 then 0 else if allM f % 256 = 0 then 8 else 0

theorem compS_le (f : Fmt) : compS f ≤ 4 := by
  have := size_le f
  unfold compS
  split
  · exact this
  · split
    · decide
    · split
      · decide
      · exact this

theorem compH_or (f : Fmt) : compH f = 0 ∨ compH f = 8 := by
  unfold compH
  split
  · exact .inl rfl
  · split
    · exact .inl rfl
    · split
      · exact .inr rfl
      · exact .inl rfl

/-- format.Compact of a format that may be. -/
theorem compact_any (f : Fmt) (w : World) (hf : f.fit) (h : validB f = true) :
    Calls Try.prog 43 #[fmtV f] w fun e w' => e = .returned (.tuple #[.int .i64 (compS f), .int .i64 (compH f)]) ∧ Below w.heap.size w w' := by
  have K17 := fun w => valid_fit f w hf
  rw [h] at K17
  have K27 := fun w => size_any f w hf
  obtain ⟨hb, r1, r2, r3, _⟩ := valid_parts h
  have hn : f.bits ≤ 32 := by omega
  obtain ⟨q1, q2, q3, q4⟩ := partOk_bd hn r1
  obtain ⟨q5, q6, q7, q8⟩ := partOk_bd hn r2
  obtain ⟨q9, q10, q11, q12⟩ := partOk_bd hn r3
  obtain ⟨_, _, _, o1, o2, o3⟩ := val_parts h (d1 := f.rm) (d2 := f.gm) (d3 := f.bm) (by omega) (by omega) (by omega)
  have K1 := fun w => mask_any f.rm f.rs w (by omega) q2 q3 q4
  have K2 := fun w => mask_any f.gm f.gs w (by omega) q6 q7 q8
  have K3 := fun w => mask_any f.bm f.bs w (by omega) q10 q11 q12
  refine compact_walk f.bits f.depth f.big f.tru f.rm f.gm f.bm f.rs f.gs f.bs _ _ _ _ (allM f) (allM f % 256) (sizeN f) _ _ w K17 K27 K1 K2 K3 o1 o2 o3 (and_255 _) ?_ ?_
  · refine hide ?_
    unfold compS
    split
    · rfl
    · split
      · rfl
      · split <;> rfl
  · refine hide ?_
    unfold compH
    split
    · rfl
    · split
      · rfl
      · split <;> rfl

theorem and_pow2 (n : Int) {k : Nat} (h : k = 8 ∨ k = 16 ∨ k = 32) : bits .and .i64 n (2 ^ k - 1) = n % 2 ^ k := by
  have hm : (BitVec.ofInt 64 (2 ^ k - 1)).toNat = 2 ^ k - 1 := by
    rcases h with h | h | h <;> subst h <;> decide
  have key : (BitVec.ofInt 64 n &&& BitVec.ofInt 64 (2 ^ k - 1)).toNat = (n % ((2 ^ 64 : Nat) : Int)).toNat % 2 ^ k := by
    rw [BitVec.toNat_and, BitVec.toNat_ofInt, hm, Nat.and_two_pow_sub_one_eq_mod]
  show IntKind.i64.wrap ((BitVec.ofInt 64 n &&& BitVec.ofInt 64 (2 ^ k - 1)).toNat : Nat) = n % 2 ^ k
  rw [key, IntKind.wrap_i64]
  clear key hm
  rcases h with h | h | h <;> subst h <;> omega

/-- A colour's value in as few bytes as it needs. -/
def cputV (f : Fmt) (n : Int) : ByteArray := ordB f.big (compS f) (n % 2 ^ f.bits.toNat / 2 ^ compH f)

theorem cput_any (f : Fmt) (n : Int) (w : World) (hf : f.fit) (h : validB f = true) :
    Calls Try.prog 37 #[fmtV f, .int .i64 n] w fun e w' => e = .returned (.string (cputV f n)) ∧ Below w.heap.size w w' := by
  have K43 := fun w => compact_any f w hf h
  have K27 := fun w => size_any f w hf
  have K96 := fun w => put96_all f (compS f) (n % 2 ^ f.bits.toNat / 2 ^ compH f) w (Nat.le_trans (compS_le f) (by decide))
  have hmin : min (compH f) 64 = compH f := by rcases compH_or f with h | h <;> rw [h] <;> rfl
  obtain ⟨hb, _⟩ := valid_parts h
  obtain ⟨hs, hs2⟩ := size_valid h
  rcases hs2 with e | e | e
  · have eb : f.bits.toNat = 8 := by omega
    rw [e] at K27
    exact cput_walk1 f n _ _ (compS f) (compH f) _ w K43 K27 K96 (by rw [eb]; exact and_pow2 n (k := 8) (.inl rfl)) rfl hmin
  · have eb : f.bits.toNat = 16 := by omega
    rw [e] at K27
    exact cput_walk2 f n _ _ (compS f) (compH f) _ w K43 K27 K96 (by rw [eb]; exact and_pow2 n (k := 16) (.inr (.inl rfl))) rfl hmin
  · have eb : f.bits.toNat = 32 := by omega
    rw [e] at K27
    exact cput_walk4 f n _ _ (compS f) (compH f) _ w K43 K27 K96 (by rw [eb]; exact and_pow2 n (k := 32) (.inr (.inr rfl))) rfl hmin

theorem getV_bd (f : Fmt) (k : Nat) (s : ByteArray) (hk : k ≤ 4) : 0 ≤ getV f k s ∧ getV f k s ≤ 4294967295 := by
  unfold getV
  split
  · have := beV_small (ordL f.big (s.data.toList.take k)) 4 (by decide)
    rwa [List.take_of_length_le (by rw [ordL_length, List.length_take]; omega)] at this
  · omega

theorem cget_any (f : Fmt) (s : ByteArray) (w : World) (hf : f.fit) (h : validB f = true) :
    Calls Try.prog 42 #[fmtV f, .string s] w fun e w' => e = .returned (.tuple #[.int .i64 (getV f (compS f) s * 2 ^ compH f), .int .i64 (getE f (compS f) s)]) ∧ Below w.heap.size w w' := by
  have hg := getV_bd f (compS f) s (compS_le f)
  have hmin : min (compH f) 64 = compH f := by rcases compH_or f with h | h <;> rw [h] <;> rfl
  refine cget_walk f s _ _ _ (compS f) (compH f) w (fun w => compact_any f w hf h) (fun w => get97_any f (compS f) s w (compS_le f) hf) rfl ?_ ?_ hmin
  · rcases compH_or f with h | h <;> rw [h] <;> omega
  · rcases compH_or f with h | h <;> rw [h] <;> omega

theorem ext_one (s : ByteArray) (i : Nat) (h : i < s.size) : (s.extract i (i + 1)).data.toList = [s[i]'h] := by
  rw [ByteArray.data_extract, Array.toList_extract, List.extract_eq_take_drop]
  have h' : i < s.data.toList.length := by simpa using h
  have : i + 1 - i = 1 := by omega
  rw [this, List.drop_eq_getElem_cons h']
  rfl

theorem ext_snoc (s : ByteArray) (i : Nat) (h : i < s.size) : s.data.toList.take (i + 1) = s.data.toList.take i ++ [s[i]'h] := by
  have h' : i < s.data.toList.length := by simpa using h
  rw [List.take_succ_eq_append_getElem h']
  rfl

set_option maxHeartbeats 1600000 in
set_option maxRecDepth 100000 in
/-- miradorref01.Turned. -/
theorem turned38_any (s : ByteArray) (w : World) (hs : s.size ≤ 9223372036854775807) :
    Calls Try.prog 38 #[.string s] w fun e w' => e = .returned (.string ⟨s.data.reverse⟩) ∧ w' = w := by
  go_enter Try.func38, Try.ntmps38
  go_wp2_with fail
  go_loopw [3, 4] (fun o i wr => ∃ (j : Nat) (t : ByteArray), j ≤ s.size ∧ i = .int .i64 j ∧ o = .string t ∧ Hid (t.data.toList = (s.data.toList.take j).reverse) ∧ Hid (t.size = j) ∧ wr = w) (fun _ i _ => s.size - (intOf i).toNat)
  case atStart => exact ⟨0, ⟨#[]⟩, by omega, rfl, rfl, hide (by simp), hide rfl, rfl⟩
  case round =>
    obtain ⟨j, t, hj, rfl, rfl, ht, hts, rfl⟩ := hrel
    by_cases hlt : j < s.size
    · have hlt' : (j : Int) < s.size := by omega
      have hcat : (9223372036854775807 < min (j + 1) s.size - j + t.size) = False := eq_false (by rw [hts.out]; omega)
      go_wp2_with fail
      go_roundw
      case rel =>
        refine ⟨j + 1, s.extract j (j + 1) ++ t, by omega, by go_num, rfl, hide ?_, hide ?_, trivial⟩
        · rw [ext_snoc s j hlt, List.reverse_append, ByteArray.data_append, Array.toList_append, ht.out, ext_one s j hlt]
          rfl
        · rw [ByteArray.size_append, ByteArray.size_extract, hts.out]
          omega
      case measure => simp [intOf]; omega
    · obtain rfl : j = s.size := by omega
      have h : t = ⟨s.data.reverse⟩ := by
        have h1 := ht.out
        rw [List.take_of_length_le (by simp)] at h1
        have h2 : t.data = s.data.reverse := Array.ext' (by rw [h1, Array.toList_reverse])
        cases t
        exact congrArg ByteArray.mk h2
      have H := hide h
      clear ht h
      go_wp2_with fail
      go_ret
      exact ⟨by rw [← H.out]; rfl, rfl⟩

end Go.Proofs.Ytodlpofpeoiedaa
