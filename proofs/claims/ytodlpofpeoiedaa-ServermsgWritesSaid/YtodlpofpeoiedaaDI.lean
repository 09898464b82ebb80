/-
  servermsg's reader: a cursor, and an error of its own: fail, text.
-/
import Derived.Test.YtodlpofpeoiedaaDH
namespace Go.Proofs.Ytodlpofpeoiedaa
open Go.RowKit Go.Sort

/-- A reader in memory. -/
def IsRd (br bc : Nat) (c : Cu) (er : Int) (w : World) : Prop := Blk br 143 #[.pointer (some ⟨bc, 0, none⟩), .int .i64 er] w ∧ IsCur 163 bc c w

/-- Nothing but two blocks has turned, of what was there. -/
def Only2 (br bc : Nat) (w w' : World) : Prop := w'.os = w.os ∧ w'.tape = w.tape ∧ w'.output = w.output ∧ w.heap.size ≤ w'.heap.size ∧ ∀ k, k < w.heap.size → k ≠ br → k ≠ bc → w'.heap[k]? = w.heap[k]?

theorem Only2.refl (br bc : Nat) (w : World) : Only2 br bc w w := ⟨rfl, rfl, rfl, Nat.le_refl _, fun _ _ _ _ => rfl⟩
theorem Only2.trans {br bc : Nat} {x y z : World} (h : Only2 br bc x y) (k : Only2 br bc y z) : Only2 br bc x z :=
  ⟨k.1.trans h.1, k.2.1.trans h.2.1, k.2.2.1.trans h.2.2.1, Nat.le_trans h.2.2.2.1 k.2.2.2.1, fun i hi h1 h2 => (k.2.2.2.2 i (Nat.lt_of_lt_of_le hi h.2.2.2.1) h1 h2).trans (h.2.2.2.2 i hi h1 h2)⟩
theorem Only2.cur {br bc : Nat} {w w' : World} (h : Only bc w w') : Only2 br bc w w' := ⟨h.os, h.tape, h.output, h.size, fun k hk _ h2 => h.block k hk (fun e => h2 (by simpa using e))⟩
theorem Only2.rd {br bc : Nat} {w w' : World} (h : Only br w w') : Only2 br bc w w' := ⟨h.os, h.tape, h.output, h.size, fun k hk h1 _ => h.block k hk (fun e => h1 (by simpa using e))⟩
theorem Only2.of {br bc : Nat} {w w' : World} (h : Below w.heap.size w w') : Only2 br bc w w' := ⟨h.os, h.tape, h.output, h.size, fun k hk _ _ => h.block k hk⟩
theorem Only2.blk {br bc k t : Nat} {C : Array Value} {w w' : World} (h : Only2 br bc w w') (hk : Blk k t C w) (h1 : k ≠ br) (h2 : k ≠ bc) : Blk k t C w' := (h.2.2.2.2 k hk.lt h1 h2).trans hk
theorem Only2.below {br bc B : Nat} {w w' : World} (h : Only2 br bc w w') (hB : B ≤ w.heap.size) (h1 : B ≤ br) (h2 : B ≤ bc) : Below B w w' :=
  ⟨h.1, h.2.1, h.2.2.1, h.2.2.2.1, fun k hk => h.2.2.2.2 k (by omega) (by omega) (by omega)⟩
theorem IsRd.below {br bc : Nat} {c : Cu} {er : Int} {w w' : World} (h : IsRd br bc c er w) (hb : Below w.heap.size w w') : IsRd br bc c er w' := ⟨h.1.below hb, h.2.keep hb⟩
theorem IsRd.step {br bc : Nat} {c c' : Cu} {er : Int} {w w' : World} (h : IsRd br bc c er w) (hne : br ≠ bc) (hc : IsCur 163 bc c' w') (ho : Only bc w w') : IsRd br bc c' er w' := ⟨h.1.only ho hne, hc⟩
theorem IsRd.ptr {br bc : Nat} {c : Cu} {er : Int} {w : World} (h : IsRd br bc c er w) : w.cell? ⟨br, 0, none⟩ = some (.pointer (some ⟨bc, 0, none⟩)) := h.1.cell 0
theorem IsRd.err {br bc : Nat} {c : Cu} {er : Int} {w : World} (h : IsRd br bc c er w) : w.cell? ⟨br, 1, none⟩ = some (.int .i64 er) := h.1.cell 1

/-- An error of the reader's own. -/
def rdF (c : Cu) (er : Int) (is : Bool) (e : Int) : Int := if is && c.e == 0 && er == 0 then e else er

set_option maxHeartbeats 1000000 in
set_option maxRecDepth 100000 in
/-- (*reader).fail. -/
theorem fail111_any (br bc : Nat) (c : Cu) (er e2 : Int) (is : Bool) (w : World) (h : IsRd br bc c er w) (hne : br ≠ bc) :
    Calls Try.prog 111 #[.pointer (some ⟨br, 0, none⟩), .bool is, .int .i64 e2] w fun e w' => e = .returned (.tuple #[]) ∧ (IsRd br bc c (rdF c er is e2) w' ∧ Only2 br bc w w') := by
  have c0 := h.ptr
  have c1 := h.err
  have p1 : w.frozen? ⟨br, 1, none⟩ = false := h.1.fr 1
  have HE := hide (err_any bc c w h.2)
  have H := hide h
  have HN := hide hne
  clear h hne
  cases is with
  | false =>
    have e : rdF c er false e2 = er := by simp [rdF]
    rw [e]
    go_enter Try.func111, Try.ntmps111
    go_wp2_with fail
    go_end0
    exact ⟨rfl, H.out, Only2.refl _ _ _⟩
  | true =>
    by_cases hc : c.e = 0
    · have q1 : (c.e == 0) = true := by simpa using hc
      by_cases he : er = 0
      · have q2 : (er == 0) = true := by simpa using he
        have e : rdF c er true e2 = e2 := by simp [rdF, q1, q2]
        rw [e]
        have R := hide (show IsRd br bc c e2 (w.setCell ⟨br, 1, none⟩ (.int .i64 e2)) from ⟨H.out.1.set 1 (.int .i64 e2), (Below.heap_setCell _ _ _ _ HN.out.symm).trans H.out.2⟩)
        have O := hide (Only2.rd (bc := bc) (only_set br 1 w (.int .i64 e2)))
        go_enter Try.func111, Try.ntmps111
        go_wp2_with fail
        refine HE.out.mono ?_
        rintro e w1 ⟨rfl, rfl⟩
        go_wp2_with fail
        go_end0
        exact ⟨rfl, R.out, O.out⟩
      · have q2 : (er == 0) = false := by simpa using he
        have e : rdF c er true e2 = er := by simp [rdF, q2]
        rw [e]
        go_enter Try.func111, Try.ntmps111
        go_wp2_with fail
        refine HE.out.mono ?_
        rintro e w1 ⟨rfl, rfl⟩
        go_wp2_with fail
        go_end0
        exact ⟨rfl, H.out, Only2.refl _ _ _⟩
    · have q1 : (c.e == 0) = false := by simpa using hc
      have e : rdF c er true e2 = er := by simp [rdF, q1]
      rw [e]
      go_enter Try.func111, Try.ntmps111
      go_wp2_with fail
      refine HE.out.mono ?_
      rintro e w1 ⟨rfl, rfl⟩
      go_wp2_with fail
      go_end0
      exact ⟨rfl, H.out, Only2.refl _ _ _⟩

/-- A text with its length: the error, the text, the cursor. -/
def rdE (c : Cu) (er : Int) : Int := rdF (c.bytes 4) er (decide (4096 < c.int 4)) 4
def rdT (c : Cu) (er : Int) : ByteArray := if rdE c er = 0 then (c.bytes 4).out (c.int 4).toNat else ⟨#[]⟩
def rdC (c : Cu) (er : Int) : Cu := if rdE c er = 0 then (c.bytes 4).bytes (c.int 4).toNat else c.bytes 4

theorem cu_int_bd (c : Cu) (k : Nat) (hk : k ≤ 4) : 0 ≤ c.int k ∧ c.int k ≤ 4294967295 := by
  unfold Cu.int
  have hl : (c.out k).data.toList.length ≤ 4 := by
    rw [Array.length_toList]
    unfold Cu.out
    split
    · show (c.s.extract c.i (c.i + k)).size ≤ 4
      rw [ByteArray.size_extract]
      omega
    · exact Nat.zero_le _
  have h := beV_bd (c.out k).data.toList
  have h2 : (c.out k).data.toList.length = 0 ∨ (c.out k).data.toList.length = 1 ∨ (c.out k).data.toList.length = 2 ∨ (c.out k).data.toList.length = 3 ∨ (c.out k).data.toList.length = 4 := by omega
  rcases h2 with h2 | h2 | h2 | h2 | h2 <;> rw [h2] at h <;> omega

theorem cu_ok (c : Cu) (k : Nat) (h : c.ok) : (c.bytes k).ok := by
  unfold Cu.bytes
  split
  · rename_i hf
    simp only [Cu.fits, Bool.and_eq_true, decide_eq_true_eq] at hf
    obtain ⟨h1, h2⟩ := h
    exact ⟨by show c.i + k ≤ c.s.size; omega, h2⟩
  · exact h

set_option maxHeartbeats 1000000 in
set_option maxRecDepth 100000 in
/-- (*reader).text. -/
theorem text110_any (br bc : Nat) (c : Cu) (er : Int) (w : World) (h : IsRd br bc c er w) (hne : Hid (br ≠ bc)) (hok : Hid c.ok) :
    Calls Try.prog 110 #[.pointer (some ⟨br, 0, none⟩)] w fun e w' => e = .returned (.string (rdT c er)) ∧ (IsRd br bc (rdC c er) (rdE c er) w' ∧ Only2 br bc w w') := by
  obtain ⟨n, hn⟩ : ∃ n : Nat, c.int 4 = n := Int.eq_ofNat_of_zero_le (cu_int_bd c 4 (by decide)).1
  have hnb : (n : Int) ≤ 4294967295 := by rw [← hn]; exact (cu_int_bd c 4 (by decide)).2
  have HI := hide (int_any bc c 4 (by simp) w h.2 hok.out)
  rw [hn] at HI
  have K1 := hide (cu_ok c 4 hok.out)
  have eE : Hid (rdE c er = rdF (c.bytes 4) er (decide (4096 < (n : Int))) 4) := hide (by unfold rdE; rw [hn])
  have eT : Hid (rdT c er = if rdE c er = 0 then (c.bytes 4).out n else ⟨#[]⟩) := hide (by unfold rdT; rw [hn]; rfl)
  have eC : Hid (rdC c er = if rdE c er = 0 then (c.bytes 4).bytes n else c.bytes 4) := hide (by unfold rdC; rw [hn]; rfl)
  clear hn
  have c0 := h.ptr
  have H := hide h
  clear h
  go_enter Try.func110, Try.ntmps110
  go_wp2_with fail
  refine HI.out.mono ?_
  rintro e w1 ⟨rfl, hc, ho⟩
  have R1 := hide (H.out.step hne.out hc ho)
  have O1 := hide (Only2.cur (br := br) ho)
  clear hc ho c0
  generalize c.bytes 4 = d at *
  go_wp2_with fail
  refine (fail111_any br bc d er 4 (decide (4096 < (n : Int))) w1 R1.out hne.out).mono ?_
  rintro e w2 ⟨rfl, hr, ho⟩
  have R2 := hide hr
  have O2 := hide (O1.out.trans ho)
  clear hr ho
  rw [← eE.out] at R2
  have c0 := R2.out.ptr
  have c1 := R2.out.err
  by_cases he : rdE c er = 0
  · have q : (rdE c er != 0) = false := by simpa using he
    have e1 : Hid (rdT c er = d.out n) := hide (by rw [eT.out, if_pos he])
    have e2 : Hid (rdC c er = d.bytes n) := hide (by rw [eC.out, if_pos he])
    have HB := hide (bytes_any bc d n w2 R2.out.2 K1.out (by omega))
    generalize hE : rdE c er = E at *
    have HEE := hide hE
    clear he hE
    go_wp2_with fail
    refine HB.out.mono ?_
    rintro e w3 ⟨rfl, hc, ho⟩
    have R3 := hide (R2.out.step hne.out hc ho)
    have O3 := hide (O2.out.trans (Only2.cur ho))
    clear hc ho
    go_wp2_with fail
    go_ret
    exact ⟨by rw [e1.out]; rfl, by rw [e2.out, HEE.out]; exact R3.out, O3.out⟩
  · have q : (rdE c er != 0) = true := by simpa using he
    have e1 : Hid (rdT c er = ⟨#[]⟩) := hide (by rw [eT.out, if_neg he])
    have e2 : Hid (rdC c er = d) := hide (by rw [eC.out, if_neg he])
    generalize hE : rdE c er = E at *
    have HEE := hide hE
    clear he hE
    go_wp2_with fail
    go_ret
    exact ⟨by rw [e1.out]; rfl, by rw [e2.out, HEE.out]; exact R2.out, O2.out⟩

end Go.Proofs.Ytodlpofpeoiedaa
