/-
  Plain laws on colours' values and their bytes.
-/
import Derived.Test.YtodlpofpeoiedaaMK
import Derived.Laws.AppendOwnNone
import Derived.ChangeSlices
namespace Go.Proofs.Ytodlpofpeoiedaa
open Go.RowKit Go.Sort

theorem nat_part {X1 X2 X3 M1 M2 M3 s k d : Nat} (e1 : X1 = d * 2 ^ s) (f1 : M1 = (2 ^ k - 1) * 2 ^ s) (hd : d < 2 ^ k) (h2 : X2 &&& M2 = X2) (h3 : X3 &&& M3 = X3) (n12 : M1 &&& M2 = 0) (n13 : M1 &&& M3 = 0) :
    (X1 ||| X2 ||| X3) / 2 ^ s % 2 ^ k = d := by
  have z2 : X2 &&& M1 = 0 := by rw [← h2, Nat.and_assoc, Nat.and_comm M2, n12, Nat.and_zero]
  have z3 : X3 &&& M1 = 0 := by rw [← h3, Nat.and_assoc, Nat.and_comm M3, n13, Nat.and_zero]
  have z1 : X1 &&& M1 = X1 := by
    rw [e1, f1, ← Nat.shiftLeft_eq, ← Nat.shiftLeft_eq, ← Nat.shiftLeft_and_distrib, Nat.and_two_pow_sub_one_eq_mod, Nat.mod_eq_of_lt hd]
  have hv : (X1 ||| X2 ||| X3) &&& M1 = X1 := by
    rw [Nat.and_or_distrib_right, Nat.and_or_distrib_right, z1, z2, z3, Nat.or_zero, Nat.or_zero]
  rw [← Nat.shiftRight_eq_div_pow, ← Nat.and_two_pow_sub_one_eq_mod]
  have e : (2 ^ k - 1) = M1 >>> s := by rw [f1, ← Nat.shiftLeft_eq, Nat.shiftLeft_shiftRight]
  rw [e, ← Nat.shiftRight_and_distrib, hv, e1, ← Nat.shiftLeft_eq, Nat.shiftLeft_shiftRight]

/-- A part's mask, and a part within it, as numbers. -/
theorem part_nat {n m s d : Int} (hn : n ≤ 32) (h : partOk n m s = true) (h0 : 0 ≤ d) (h1 : d ≤ m) : ∃ D S k : Nat, d = D ∧ s = S ∧ D < 2 ^ k ∧ m + 1 = ((2 ^ k : Nat) : Int) ∧
    d * 2 ^ s.toNat = ((D * 2 ^ S : Nat) : Int) ∧ mk m s = (((2 ^ k - 1) * 2 ^ S : Nat) : Int) ∧ (2 ^ k - 1) * 2 ^ S < 9223372036854775808 ∧ D * 2 ^ S < 9223372036854775808 := by
  obtain ⟨b1, b2, b3, b4⟩ := partOk_bd hn h
  have hw := (partOk_iff.1 h).1
  rcases widthOf_spec m with ⟨hz, _⟩ | ⟨a, b, he⟩
  · exact absurd hz hw
  generalize widthOf m = k at *
  obtain ⟨D, rfl⟩ := Int.eq_ofNat_of_zero_le h0
  obtain ⟨S, rfl⟩ := Int.eq_ofNat_of_zero_le b3
  have e : ((2 ^ k : Nat) : Int) = (2 : Int) ^ k := Int.natCast_pow 2 k
  have hp : 0 < 2 ^ k := Nat.two_pow_pos k
  have hm : m = ((2 ^ k - 1 : Nat) : Int) := by omega
  have hk : (2 ^ k : Nat) ≤ 65536 := by omega
  have ht : (2 ^ S : Nat) ≤ 2 ^ 32 := Nat.pow_le_pow_right (by decide) (by omega)
  have hl1 : (2 ^ k - 1) * 2 ^ S ≤ 65536 * 4294967296 := Nat.mul_le_mul (by omega) ht
  have hl2 : D * 2 ^ S ≤ 65536 * 4294967296 := Nat.mul_le_mul (by omega) ht
  refine ⟨D, S, k, rfl, rfl, by omega, by omega, ?_, ?_, by omega, by omega⟩
  · rw [Int.toNat_natCast, Int.natCast_mul, Int.natCast_pow]; rfl
  · unfold mk
    rw [hm, Int.toNat_natCast, Int.natCast_mul, Int.natCast_pow]; rfl

theorem nat_or_in {a p q : Nat} (h : a &&& p = a) (hz : p &&& q = 0) : a &&& q = 0 := by rw [← h, Nat.and_assoc, hz, Nat.and_zero]

/-- Each part of a value, read again. -/
theorem val_read {f : Fmt} (h : validB f = true) {d1 d2 d3 : Int} (h1 : 0 ≤ d1 ∧ d1 ≤ f.rm) (h2 : 0 ≤ d2 ∧ d2 ≤ f.gm) (h3 : 0 ≤ d3 ∧ d3 ≤ f.bm) :
    (d1 * 2 ^ f.rs.toNat + d2 * 2 ^ f.gs.toNat + d3 * 2 ^ f.bs.toNat) / 2 ^ f.rs.toNat % (f.rm + 1) = d1 ∧
    (d1 * 2 ^ f.rs.toNat + d2 * 2 ^ f.gs.toNat + d3 * 2 ^ f.bs.toNat) / 2 ^ f.gs.toNat % (f.gm + 1) = d2 ∧
    (d1 * 2 ^ f.rs.toNat + d2 * 2 ^ f.gs.toNat + d3 * 2 ^ f.bs.toNat) / 2 ^ f.bs.toNat % (f.bm + 1) = d3 := by
  obtain ⟨hb, r1, r2, r3, a12, a13, a23⟩ := valid_parts h
  have hn : f.bits ≤ 32 := by omega
  obtain ⟨D1, S1, k1, e1, s1, l1, m1, x1, y1, b1, c1⟩ := part_nat hn r1 h1.1 h1.2
  obtain ⟨D2, S2, k2, e2, s2, l2, m2, x2, y2, b2, c2⟩ := part_nat hn r2 h2.1 h2.2
  obtain ⟨D3, S3, k3, e3, s3, l3, m3, x3, y3, b3, c3⟩ := part_nat hn r3 h3.1 h3.2
  rw [y1, y2] at a12
  rw [y1, y3] at a13
  rw [y2, y3] at a23
  have n12 := and_zero_nat b1 b2 a12
  have n13 := and_zero_nat b1 b3 a13
  have n23 := and_zero_nat b2 b3 a23
  have mk1 : ∀ D S k : Nat, D < 2 ^ k → (D * 2 ^ S) &&& ((2 ^ k - 1) * 2 ^ S) = D * 2 ^ S := fun D S k hd => by
    rw [← Nat.shiftLeft_eq, ← Nat.shiftLeft_eq, ← Nat.shiftLeft_and_distrib, Nat.and_two_pow_sub_one_eq_mod, Nat.mod_eq_of_lt hd]
  have z1 := mk1 D1 S1 k1 l1
  have z2 := mk1 D2 S2 k2 l2
  have z3 := mk1 D3 S3 k3 l3
  have o12 : D1 * 2 ^ S1 ||| D2 * 2 ^ S2 = D1 * 2 ^ S1 + D2 * 2 ^ S2 := or_add_nat _ _ (by rw [← z2, Nat.and_comm (D2 * 2 ^ S2), ← Nat.and_assoc, nat_or_in z1 n12, Nat.zero_and])
  have o123 : (D1 * 2 ^ S1 ||| D2 * 2 ^ S2) ||| D3 * 2 ^ S3 = D1 * 2 ^ S1 + D2 * 2 ^ S2 + D3 * 2 ^ S3 := by
    rw [or_add_nat _ _ (by rw [← z3, Nat.and_comm (D3 * 2 ^ S3), ← Nat.and_assoc, Nat.and_or_distrib_right, nat_or_in z1 n13, nat_or_in z2 n23]; simp), o12]
  have V : (d1 * 2 ^ f.rs.toNat + d2 * 2 ^ f.gs.toNat + d3 * 2 ^ f.bs.toNat) = (((D1 * 2 ^ S1 ||| D2 * 2 ^ S2) ||| D3 * 2 ^ S3 : Nat) : Int) := by
    rw [o123, x1, x2, x3]; rfl
  have n21 : (2 ^ k2 - 1) * 2 ^ S2 &&& (2 ^ k1 - 1) * 2 ^ S1 = 0 := by rw [Nat.and_comm]; exact n12
  have n31 : (2 ^ k3 - 1) * 2 ^ S3 &&& (2 ^ k1 - 1) * 2 ^ S1 = 0 := by rw [Nat.and_comm]; exact n13
  have n32 : (2 ^ k3 - 1) * 2 ^ S3 &&& (2 ^ k2 - 1) * 2 ^ S2 = 0 := by rw [Nat.and_comm]; exact n23
  rw [V]
  have rd : ∀ (v S k D : Nat) (s m d : Int), s = S → m + 1 = ((2 ^ k : Nat) : Int) → d = D → v / 2 ^ S % 2 ^ k = D → ((v : Int) / 2 ^ s.toNat % (m + 1)) = d := fun v S k D s m d hs hm hd hv => by
    subst hs hd
    rw [hm, Int.toNat_natCast, ← hv]
    simp [Int.natCast_pow, Int.natCast_ediv, Int.natCast_emod]
  refine ⟨rd _ S1 k1 D1 _ _ _ s1 m1 e1 (nat_part rfl rfl l1 z2 z3 n12 n13), rd _ S2 k2 D2 _ _ _ s2 m2 e2 ?_, rd _ S3 k3 D3 _ _ _ s3 m3 e3 ?_⟩
  · rw [Nat.or_comm (D1 * 2 ^ S1)]
    exact nat_part rfl rfl l2 z1 z3 n21 n23
  · rw [Nat.or_comm]
    rw [← Nat.or_assoc]
    exact nat_part rfl rfl l3 z1 z2 n31 n32

/-- A part of a value of up to eight bits leads back to itself. -/
theorem dn_up {m d : Int} (hw : widthOf m ≠ 0) (hm : m ≤ 255) (h1 : d ≤ m) : dn (up d m) m = d := by
  rcases widthOf_spec m with ⟨hz, _⟩ | ⟨a, b, he⟩
  · exact absurd hz hw
  generalize widthOf m = k at *
  unfold dn up
  rcases pow_cases a b with rfl | rfl | rfl | rfl | rfl | rfl | rfl | rfl | rfl | rfl | rfl | rfl | rfl | rfl | rfl | rfl
  · obtain rfl : m = 1 := by omega
    omega
  · obtain rfl : m = 3 := by omega
    omega
  · obtain rfl : m = 7 := by omega
    omega
  · obtain rfl : m = 15 := by omega
    omega
  · obtain rfl : m = 31 := by omega
    omega
  · obtain rfl : m = 63 := by omega
    omega
  · obtain rfl : m = 127 := by omega
    omega
  · obtain rfl : m = 255 := by omega
    omega
  all_goals omega

/-- Values of colours that are left are the same values. -/
theorem quant_val {f : Fmt} (h : validB f = true) (hr : f.rm ≤ 255) (hg : f.gm ≤ 255) (hb : f.bm ≤ 255) (c : Int) : valV f (quantV f c) = valV f c := by
  obtain ⟨⟨_, _, _, m1, n1, k1⟩, ⟨_, _, _, m2, n2, k2⟩, _, _, _, m3, n3, k3⟩ := part_bd h
  have D1 := dn_bd (mod_bd (c / 65536)).1 (mod_bd (c / 65536)).2 (show 0 ≤ f.rm by omega)
  have D2 := dn_bd (mod_bd (c / 256)).1 (mod_bd (c / 256)).2 (show 0 ≤ f.gm by omega)
  have D3 := dn_bd (mod_bd c).1 (mod_bd c).2 (show 0 ≤ f.bm by omega)
  obtain ⟨v1, v2, v3⟩ := val_read h D1 D2 D3
  have U1 := up_bd D1.1 D1.2 m1
  have U2 := up_bd D2.1 D2.2 m2
  have U3 := up_bd D3.1 D3.2 m3
  have w1 := dn_up k1 hr D1.2
  have w2 := dn_up k2 hg D2.2
  have w3 := dn_up k3 hb D3.2
  have eq : quantV f c = up (dn (c / 65536 % 256) f.rm) f.rm * 65536 + up (dn (c / 256 % 256) f.gm) f.gm * 256 + up (dn (c % 256) f.bm) f.bm := by
    unfold quantV colV valV
    rw [v1, v2, v3]
  rw [eq]
  generalize up (dn (c / 65536 % 256) f.rm) f.rm = u1 at *
  generalize up (dn (c / 256 % 256) f.gm) f.gm = u2 at *
  generalize up (dn (c % 256) f.bm) f.bm = u3 at *
  have q1 : (u1 * 65536 + u2 * 256 + u3) / 65536 % 256 = u1 := by omega
  have q2 : (u1 * 65536 + u2 * 256 + u3) / 256 % 256 = u2 := by omega
  have q3 : (u1 * 65536 + u2 * 256 + u3) % 256 = u3 := by omega
  unfold valV
  rw [q1, q2, q3, w1, w2, w3]

theorem raw_append (f : Fmt) (xs ys : List Int) : rawB f (xs ++ ys) = rawB f xs ++ rawB f ys := by
  apply ByteArray.ext
  apply Array.ext'
  simp [rawB, putsL]

theorem raw_size (f : Fmt) (xs : List Int) : (rawB f xs).size = xs.length * sizeN f := by
  show (putsL f (xs.map (valA f))).toArray.size = _
  rw [List.size_toArray, putsL_length, List.length_map]

theorem raw_none {f : Fmt} (h : validB f = false) (xs : List Int) : rawB f xs = ⟨#[]⟩ := by
  have e : ∀ vs : List Int, putsL f vs = [] := fun vs => by
    refine List.eq_nil_of_length_eq_zero ?_
    rw [putsL_length]
    simp [sizeN, h]
  unfold rawB
  rw [e]

theorem raw_quant {f : Fmt} (h : validB f = true) (hr : f.rm ≤ 255) (hg : f.gm ≤ 255) (hb : f.bm ≤ 255) (xs : List Int) : rawB f (xs.map (quantV f)) = rawB f xs := by
  unfold rawB
  rw [List.map_map]
  have e : ∀ c, (valA f ∘ quantV f) c = valA f c := fun c => by
    show valA f (quantV f c) = _
    simp only [valA, h, if_true]
    exact quant_val h hr hg hb c
  rw [show valA f ∘ quantV f = valA f from funext e]

theorem putsL_drop (f : Fmt) : ∀ (vs : List Int) (j : Nat) (h : j < vs.length), (putsL f vs).drop (j * sizeN f) = (putV f (vs[j]'h)).data.toList ++ putsL f (vs.drop (j + 1))
  | v :: vs, 0, _ => by simp [putsL]
  | v :: vs, j + 1, h => by
    have z : (putV f v).data.toList.length = sizeN f := by rw [Array.length_toList]; exact putV_size f v
    have e : putsL f (v :: vs) = (putV f v).data.toList ++ putsL f vs := rfl
    rw [e, Nat.succ_mul, Nat.add_comm, ← List.drop_drop, List.drop_left' z, putsL_drop f vs j (by simpa using h)]
    rfl

/-- What is written is read again. -/
theorem raw_back {f : Fmt} (h : validB f = true) (zs : List Int) (tail : ByteArray) : pixL f (rawB f zs ++ tail) zs.length = zs.map (quantV f) := by
  apply List.ext_getElem
  · simp [pixL]
  · intro j h1 h2
    have hj : j < zs.length := by simpa using h2
    have ea : zs.map (valA f) = zs.map (valV f) := List.map_congr_left fun c _ => by simp [valA, h]
    have hL : (putsL f (zs.map (valV f))).length = zs.length * sizeN f := by rw [putsL_length, List.length_map]
    have hd := putsL_drop f (zs.map (valV f)) j (by simpa using hj)
    obtain ⟨t, ht⟩ : ∃ t : ByteArray, (rawB f zs ++ tail).extract (j * sizeN f) (zs.length * sizeN f) = ordB f.big (sizeN f) (valV f zs[j]) ++ t := by
      refine ⟨⟨(putsL f ((zs.map (valV f)).drop (j + 1))).toArray⟩, ?_⟩
      apply ByteArray.ext
      apply Array.ext'
      rw [ByteArray.data_extract, Array.toList_extract, List.extract_eq_take_drop, ByteArray.data_append, ByteArray.data_append, Array.toList_append, Array.toList_append, ← putV_eq]
      show (((putsL f (zs.map (valA f))) ++ tail.data.toList).drop (j * sizeN f)).take _ = _ ++ putsL f ((zs.map (valV f)).drop (j + 1))
      have hle : j * sizeN f ≤ zs.length * sizeN f := Nat.mul_le_mul_right _ (by omega)
      rw [ea, List.drop_append_of_le_length (by omega), List.take_append_of_le_length (by rw [List.length_drop, hL]; omega), List.take_of_length_le (by rw [List.length_drop, hL]; omega), hd, List.getElem_map]
    have hg := (get_put f (sizeN f) (valV f zs[j]) t h).2
    have hs := (comp_back h zs[j]).2
    have hv := (val_in h zs[j]).1
    obtain ⟨hb, _⟩ := valid_parts h
    have hp := pow256 (size_valid h).1 hb
    simp only [pixL, List.getElem_map, List.getElem_range]
    rw [ht, hg, hp, Int.emod_eq_of_lt hv hs]
    rfl

end Go.Proofs.Ytodlpofpeoiedaa

/-
  Rows of numbers: compared, appended, and as an argument.
-/
namespace Go.Proofs.Ytodlpofpeoiedaa
open Go.RowKit Go.Sort

/-- miradorref12.Row. -/
theorem row_any (a1 a2 : Option Addr) (n1 n2 c1 c2 : Nat) (xs ys : List Int) (w : World) (h1 : IntsIn w.heap.size w a1 n1 xs) (h2 : IntsIn w.heap.size w a2 n2 ys) (hn : n1 ≤ 9223372036854775807) :
    Calls Try.prog 30 #[.slice a1 n1 c1, .slice a2 n2 c2] w fun e w' => e = .returned (.bool (decide (xs = ys))) ∧ Below w.heap.size w w' := by
  obtain ⟨l1, h1⟩ := h1
  obtain ⟨l2, h2⟩ := h2
  by_cases hne : n1 = n2
  · subst hne
    by_cases h0 : n1 = 0
    · subst h0
      obtain rfl := List.length_eq_zero_iff.1 l1
      obtain rfl := List.length_eq_zero_iff.1 l2
      exact row_none a1 a2 c1 c2 w
    · obtain ⟨b, o, rfl, hb, hx⟩ := h1.resolve_left h0
      obtain ⟨b2, o2, rfl, hb2, hy⟩ := h2.resolve_left h0
      refine row_walk b o b2 o2 n1 c1 c2 xs ys w l1 l2 hn hb hb2 (hide fun j hj => ?_) (hide fun j hj => ?_)
      · rw [List.getD_eq_getElem?_getD]; exact hx j hj
      · rw [List.getD_eq_getElem?_getD]; exact hy j hj
  · have e : decide (xs = ys) = false := decide_eq_false fun e => hne (by rw [← l1, ← l2, e])
    rw [e]
    exact row_len a1 a2 n1 n2 c1 c2 w hne

theorem add_row (b off j : Nat) : Addr.add ⟨b, off, none⟩ j = ⟨b, off + j, none⟩ := by
  cases j with
  | zero => simp [Addr.add]
  | succ j => simp [Addr.add]

/-- 'append(out, xs...)' of rows of numbers. -/
theorem wpList_append_ints {ops : Array Oper} {rest : List Oper} {o : Oper} {a : Act} {w : World} {Q : Exit → Act → World → Prop} (hgd : o.guard = none) (s x : Operand)
    (ho : o.op = .call { callee := .builtin .append, args := #[s, x], argTypes := #[32, 32] })
    (base : Nat) (v : Value) (n : Nat) (xs ys : List Int) (hs : a.eval s = v) (hown : w.ownsRow base 3 1 v n (xs.map (Value.int .i64)))
    (ad : Option Addr) (m c : Nat) (hx : a.eval x = .slice ad m c) (hc : ad = none → c = 0) (hI : IntsIn w.heap.size w ad m ys) (hl : (n + m) * 8 ≤ 140737488355328) (hbase : base ≤ w.heap.size)
    (h : ∀ v' w', w'.ownsRow base 3 1 v' (n + m) ((xs ++ ys).map (Value.int .i64)) → Below base w w' → (∀ k, k < w.heap.size → v.ownBlock ≠ some k → w'.heap[k]? = w.heap[k]?) → wpList Try.prog ops Q rest (a.put o.dst v') w') : wpList Try.prog ops Q (o :: rest) a w := by
  obtain ⟨i0, hi, hz0, hz1, hz2⟩ := info_parts info3
  obtain ⟨ly, hI⟩ := hI
  rcases ad with _ | ad
  · have hm : m = 0 := by
      rcases hI with h0 | ⟨b, off, e, _⟩
      · exact h0
      · cases e
    subst hm
    obtain rfl := hc rfl
    obtain rfl := List.length_eq_zero_iff.1 ly
    refine wpList_append_own_none hgd s x 32 ho base 3 i0 1 Try.underlying32 hi v n (xs.map (Value.int .i64)) hs hown hx ?_
    refine h v w ?_ (Below.refl _ _) (fun _ _ _ => rfl)
    rw [List.append_nil]
    exact hown
  · refine wpList_append_own w hgd s x 32 ho base 3 i0 (.int .i64 0) 1 8 Try.underlying32 hi hz0 hz1 hz2 rfl (by decide) v n (xs.map (Value.int .i64)) hs hown ad m c (ys.map (Value.int .i64)) hx (by rw [List.length_map, ly, Nat.mul_one]) ?_ ?_ (by unfold maxLen; omega) hl hbase ?_
    · intro j u hu
      have hj : j < m := by
        have := (List.getElem?_eq_some_iff.1 hu).1
        rw [List.length_map, ly] at this
        exact this
      obtain ⟨b, off, e, _, hcs⟩ := hI.resolve_left (by omega)
      cases e
      have := hcs j hj
      rw [List.getElem?_map, List.getElem?_eq_getElem (by omega)] at hu
      rw [List.getElem?_eq_getElem (by omega), Option.getD_some] at this
      simp only [Option.map_some, Option.some.injEq] at hu
      subst hu
      rw [add_row]
      exact this
    · intro u hu
      obtain ⟨z, _, rfl⟩ := List.mem_map.1 hu
      rfl
    · intro v' w' h2 h3 _
      refine h v' w' (by rw [List.map_append]; exact h2) ?_ (fun k hk hne => h3.block k hk (fun e => hne e.symm))
      exact (Below.refl base w).grown h3 hbase (fun k e => (hown.lt k e).1)

/-- A row of numbers that came in. -/
theorem open_row {H : Type} {enc : TypeId × Value → H} {w : World} {base fuel : Nat} {spare : Nat → Bool} {held : Bool} {v : Value} {x : DataW H × List MemPlace} (h : DataW.trod enc Try.prog w base spare held fuel 32 [v] = some x) :
    ∃ (a : Option Addr) (n c : Nat) (zs : List Int), v = .slice a n c ∧ IntsIn w.heap.size w a n zs ∧ n ≤ 9223372036854775807 ∧ (a = none → c = 0) := by
  rcases Go.ChangeShapes.open_ints Try.underlying32 Try.underlying3 (by kernel_rfl) h with ⟨hv, _⟩ | ⟨a, len, cap, zs, hv, _, hl, hc, hz, _, hcs, _⟩
  · obtain rfl : v = .slice none 0 0 := by simpa using hv
    exact ⟨none, 0, 0, [], rfl, ⟨rfl, .inl rfl⟩, by decide, fun _ => rfl⟩
  · obtain rfl : v = .slice (some a) len cap := by simpa using hv
    have hzl : len ≤ zs.length := by rw [hz]; split <;> omega
    refine ⟨some a, len, cap, zs.take len, rfl, ⟨by rw [List.length_take]; omega, ?_⟩, by unfold maxLen at hc; omega, fun e => by cases e⟩
    by_cases h0 : len = 0
    · exact .inl h0
    · right
      have hc0 := hcs 0 (by omega)
      obtain ⟨b, off, spot⟩ := a
      have hs : spot = none ∧ b < w.heap.size := by
        have hh := hc0
        simp only [World.cell?, Addr.add] at hh
        split at hh
        · rename_i c e f heq
          refine ⟨?_, (Array.getElem?_eq_some_iff.1 heq).1⟩
          cases spot with
          | none => rfl
          | some _ => simp at hh
        · cases hh
      obtain ⟨rfl, hb⟩ := hs
      refine ⟨b, off, rfl, hb, fun j hj => ?_⟩
      have := hcs j (by omega)
      rw [List.getElem?_take_of_lt hj, ← List.getD_eq_getElem?_getD]
      rw [add_row] at this
      exact this

end Go.Proofs.Ytodlpofpeoiedaa
