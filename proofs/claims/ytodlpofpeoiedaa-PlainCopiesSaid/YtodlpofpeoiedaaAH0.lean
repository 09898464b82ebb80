/-
  What is put is got again: plain words on formats, bytes and values. No program in sight.
-/
import Derived.Test.YtodlpofpeoiedaaAF
namespace Go.Proofs.Ytodlpofpeoiedaa
open Go.RowKit Go.Sort

theorem leI_mod (k : Nat) : ∀ n : Int, leI k (n % 256 ^ k) = leI k n := by
  induction k with
  | zero => intro n; rfl
  | succ k ih =>
    intro n
    have hp : (0 : Int) < 256 ^ k := Int.pow_pos (by decide)
    have e1 : n % 256 ^ (k + 1) % 256 = n % 256 := by
      rw [Int.pow_succ]
      exact Int.emod_emod_of_dvd n (Int.dvd_mul_left _ _)
    have e2 : n % 256 ^ (k + 1) / 256 = n / 256 % 256 ^ k := by
      have hd : n % 256 ^ (k + 1) = n - 256 ^ (k + 1) * (n / 256 ^ (k + 1)) := Int.emod_def _ _
      have hq : n / 256 ^ (k + 1) = n / 256 / 256 ^ k := by
        rw [Int.pow_succ, Int.mul_comm, Int.ediv_ediv_of_nonneg (by decide)]
      rw [hd, hq, Int.emod_def (n / 256), Int.pow_succ, Int.mul_comm (256 ^ k) 256, Int.mul_assoc]
      omega
    rw [leI, leI, e1, e2, ih]

theorem beB_mod (k : Nat) (n : Int) : beB k (n % 256 ^ k) = beB k n := by unfold beB; rw [leI_mod]

theorem beV_beB2 (k : Nat) (n : Int) : beV (beB k n).data.toList = n % 256 ^ k := by
  have hp : (0 : Int) < 256 ^ k := Int.pow_pos (by decide)
  rw [← beB_mod]
  exact beV_beB k _ (Int.emod_nonneg _ (Int.ne_of_gt hp)) (Int.emod_lt_of_pos _ hp)

theorem ordL_ordB (b : Bool) (k : Nat) (n : Int) : beV (ordL b (ordB b k n).data.toList) = n % 256 ^ k := by
  cases b with
  | true => exact beV_beB2 k n
  | false =>
    have e : (leB k n).data.toList.reverse = (beB k n).data.toList := by
      rw [← beB_rev]
      simp
    show beV ((leB k n).data.toList.reverse) = _
    rw [e]
    exact beV_beB2 k n

theorem ordB_len (b : Bool) (k : Nat) (n : Int) : (ordB b k n).size = k := by
  cases b
  · exact leB_size k n
  · exact beB_size k n

/-- What stands behind does no harm. -/
theorem get_put (f : Fmt) (k : Nat) (n : Int) (t : ByteArray) (h : validB f = true) : getE f k (ordB f.big k n ++ t) = 0 ∧ getV f k (ordB f.big k n ++ t) = n % 256 ^ k := by
  have e : getE f k (ordB f.big k n ++ t) = 0 := by
    unfold getE
    rw [if_pos h, if_neg (by rw [ByteArray.size_append, ordB_len]; omega)]
  refine ⟨e, ?_⟩
  unfold getV
  rw [if_pos e, ByteArray.data_append, Array.toList_append, List.take_append_of_le_length (by rw [Array.length_toList]; exact Nat.le_of_eq (ordB_len f.big k n).symm),
    List.take_of_length_le (by rw [Array.length_toList]; exact Nat.le_of_eq (ordB_len f.big k n)), ordL_ordB]

theorem pow256 {k : Nat} {b : Int} (hb : (k : Int) = b / 8) (hb2 : b = 8 ∨ b = 16 ∨ b = 32) : (256 : Int) ^ k = 2 ^ b.toNat := by
  have : b.toNat = 8 * k := by omega
  rw [this, Int.pow_mul]
  rfl

/-- A part's mask, as a natural number. -/
theorem mask_parts {n m s : Int} (hn : n = 8 ∨ n = 16 ∨ n = 32) (h : partOk n m s = true) :
    ∃ x : Nat, m * 2 ^ s.toNat = x ∧ x < 9223372036854775808 ∧ x < 2 ^ n.toNat ∧ (∃ k : Nat, 1 ≤ k ∧ m + 1 = 2 ^ k) ∧ 0 ≤ s := by
  obtain ⟨hw, h0, hl⟩ := partOk_iff.1 h
  obtain ⟨q1, q2, q3, q4⟩ := partOk_bd (by omega) h
  obtain ⟨x, hx, hxl⟩ := mk_nat q1 q2 q3 q4
  rcases widthOf_spec m with ⟨h', _⟩ | ⟨a, b, he⟩
  · exact absurd h' hw
  · refine ⟨x, hx, hxl, ?_, ⟨_, a, he⟩, h0⟩
    have hp : (0 : Int) < 2 ^ s.toNat := Int.pow_pos (by decide)
    have h1 : m * 2 ^ s.toNat < 2 ^ widthOf m * 2 ^ s.toNat := Int.mul_lt_mul_of_pos_right (by omega) hp
    rw [← Int.pow_add] at h1
    have h2 : (2 : Int) ^ (widthOf m + s.toNat) ≤ 2 ^ n.toNat := by
      have : (2 : Nat) ^ (widthOf m + s.toNat) ≤ 2 ^ n.toNat := Nat.pow_le_pow_right (by decide) (by omega)
      have e : ∀ k : Nat, ((2 ^ k : Nat) : Int) = (2 : Int) ^ k := fun k => by simp
      rw [← e, ← e]
      exact Int.ofNat_le.2 this
    have h3 : (x : Int) < ((2 ^ n.toNat : Nat) : Int) := by
      have e : ((2 ^ n.toNat : Nat) : Int) = (2 : Int) ^ n.toNat := by simp
      rw [e, ← hx]
      exact Int.lt_of_lt_of_le h1 h2
    exact Int.ofNat_lt.1 h3

theorem part8 {m : Int} {s k : Nat} (hk : 1 ≤ k) (hm : m + 1 = 2 ^ k) (h : m * 2 ^ s % 256 = 0) (d : Int) : d * 2 ^ s % 256 = 0 := by
  have hodd : m % 2 = 1 := by
    obtain ⟨j, rfl⟩ : ∃ j, k = j + 1 := ⟨k - 1, by omega⟩
    rw [Int.pow_succ] at hm
    omega
  by_cases hs : s < 8
  · have : s = 0 ∨ s = 1 ∨ s = 2 ∨ s = 3 ∨ s = 4 ∨ s = 5 ∨ s = 6 ∨ s = 7 := by omega
    rcases this with e | e | e | e | e | e | e | e <;> subst e <;> omega
  · obtain ⟨j, rfl⟩ : ∃ j, s = j + 8 := ⟨s - 8, by omega⟩
    rw [Int.pow_add, ← Int.mul_assoc]
    exact Int.mul_emod_left _ _

theorem or_low8 {x y : Nat} (h : (x ||| y) % 256 = 0) : x % 256 = 0 ∧ y % 256 = 0 := by
  have e : ∀ z : Nat, z % 256 = z &&& 255 := fun z => (Nat.and_two_pow_sub_one_eq_mod z 8).symm
  rw [e, Nat.and_or_distrib_right] at h
  rw [e, e]
  exact Nat.or_eq_zero_iff.1 h

/-- All of a format's bits. -/
theorem all_parts {f : Fmt} (h : validB f = true) : 0 ≤ allM f ∧ allM f < 2 ^ f.bits.toNat ∧
    (allM f % 256 = 0 → f.rm * 2 ^ f.rs.toNat % 256 = 0 ∧ f.gm * 2 ^ f.gs.toNat % 256 = 0 ∧ f.bm * 2 ^ f.bs.toNat % 256 = 0) := by
  obtain ⟨hb, r1, r2, r3, a12, a13, a23⟩ := valid_parts h
  obtain ⟨x1, e1, l1, m1, _⟩ := mask_parts hb r1
  obtain ⟨x2, e2, l2, m2, _⟩ := mask_parts hb r2
  obtain ⟨x3, e3, l3, m3, _⟩ := mask_parts hb r3
  unfold mk at a12 a13 a23
  unfold allM
  rw [e1, e2] at a12
  rw [e1, e3] at a13
  rw [e2, e3] at a23
  have z12 := and_zero_nat l1 l2 a12
  have z13 := and_zero_nat l1 l3 a13
  have z23 := and_zero_nat l2 l3 a23
  have o12 := or_add_nat x1 x2 z12
  have z : (x1 ||| x2) &&& x3 = 0 := by rw [Nat.and_or_distrib_right, z13, z23]; rfl
  have o := or_add_nat (x1 ||| x2) x3 z
  rw [e1, e2, e3]
  have hs : (x1 : Int) + x2 + x3 = (((x1 ||| x2) ||| x3 : Nat) : Int) := by
    rw [o, o12]
    omega
  rw [hs]
  have hlt : ((x1 ||| x2) ||| x3) < 2 ^ f.bits.toNat := Nat.or_lt_two_pow (Nat.or_lt_two_pow m1 m2) m3
  refine ⟨by omega, ?_, fun h8 => ?_⟩
  · have e : ((2 ^ f.bits.toNat : Nat) : Int) = (2 : Int) ^ f.bits.toNat := by simp
    rw [← e]
    exact Int.ofNat_lt.2 hlt
  · have h8' : ((x1 ||| x2) ||| x3) % 256 = 0 := by omega
    obtain ⟨h12, h3⟩ := or_low8 h8'
    obtain ⟨h1, h2⟩ := or_low8 h12
    omega

theorem mul_le_pow {d m : Int} (s : Nat) (h0 : 0 ≤ d) (h1 : d ≤ m) : 0 ≤ d * 2 ^ s ∧ d * 2 ^ s ≤ m * 2 ^ s := by
  have hp : (0 : Int) < 2 ^ s := Int.pow_pos (by decide)
  exact ⟨Int.mul_nonneg h0 (Int.le_of_lt hp), Int.mul_le_mul_of_nonneg_right h1 (Int.le_of_lt hp)⟩

/-- A colour's value lies among the format's bits. -/
theorem val_in {f : Fmt} (h : validB f = true) (n : Int) : 0 ≤ valV f n ∧ valV f n ≤ allM f ∧ (allM f % 256 = 0 → valV f n % 256 = 0) := by
  obtain ⟨hb, r1, r2, r3, _⟩ := valid_parts h
  have hn : f.bits ≤ 32 := by omega
  obtain ⟨q1, q2, q3, q4⟩ := partOk_bd hn r1
  obtain ⟨q5, q6, q7, q8⟩ := partOk_bd hn r2
  obtain ⟨q9, q10, q11, q12⟩ := partOk_bd hn r3
  obtain ⟨x1, y1⟩ := mod_bd (n / 65536)
  obtain ⟨x2, y2⟩ := mod_bd (n / 256)
  obtain ⟨x3, y3⟩ := mod_bd n
  have D1 := dn_bd x1 y1 (show 0 ≤ f.rm by omega)
  have D2 := dn_bd x2 y2 (show 0 ≤ f.gm by omega)
  have D3 := dn_bd x3 y3 (show 0 ≤ f.bm by omega)
  obtain ⟨_, _, _, _, ⟨k1, j1, t1⟩, _⟩ := mask_parts hb r1
  obtain ⟨_, _, _, _, ⟨k2, j2, t2⟩, _⟩ := mask_parts hb r2
  obtain ⟨_, _, _, _, ⟨k3, j3, t3⟩, _⟩ := mask_parts hb r3
  have P1 := mul_le_pow f.rs.toNat D1.1 D1.2
  have P2 := mul_le_pow f.gs.toNat D2.1 D2.2
  have P3 := mul_le_pow f.bs.toNat D3.1 D3.2
  have A := (all_parts h).2.2
  unfold valV
  refine ⟨by omega, by unfold allM; omega, fun h8 => ?_⟩
  obtain ⟨g1, g2, g3⟩ := A h8
  have E1 := part8 j1 t1 g1 (dn (n / 65536 % 256) f.rm)
  have E2 := part8 j2 t2 g2 (dn (n / 256 % 256) f.gm)
  have E3 := part8 j3 t3 g3 (dn (n % 256) f.bm)
  omega

/-- As few bytes as a value needs are enough. -/
theorem comp_back {f : Fmt} (h : validB f = true) (n : Int) : (valV f n % 2 ^ f.bits.toNat / 2 ^ compH f) % 256 ^ compS f * 2 ^ compH f = valV f n ∧ valV f n < 2 ^ f.bits.toNat := by
  obtain ⟨v0, v1, v8⟩ := val_in h n
  obtain ⟨_, a1, _⟩ := all_parts h
  obtain ⟨hb, _⟩ := valid_parts h
  obtain ⟨hs, hs2⟩ := size_valid h
  have hp := pow256 hs hb
  have hlt : valV f n < 2 ^ f.bits.toNat := by omega
  refine ⟨?_, hlt⟩
  rw [Int.emod_eq_of_lt v0 hlt]
  unfold compS compH
  split
  · rw [hp, Int.pow_zero, Int.ediv_one, Int.mul_one, Int.emod_eq_of_lt v0 hlt]
  · split
    · rw [Int.pow_zero, Int.ediv_one, Int.mul_one]
      exact Int.emod_eq_of_lt v0 (by omega)
    · split
      · rename_i h1 h2 h3
        have e := v8 h3
        have hb32 : f.bits.toNat = 32 := by omega
        rw [hb32] at hlt
        omega
      · rw [hp, Int.pow_zero, Int.ediv_one, Int.mul_one, Int.emod_eq_of_lt v0 hlt]

end Go.Proofs.Ytodlpofpeoiedaa
