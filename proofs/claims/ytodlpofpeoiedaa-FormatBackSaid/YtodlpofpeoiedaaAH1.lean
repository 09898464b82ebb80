/-
  A format's bytes are read again, whatever stands behind them. No program in sight.
-/
import Derived.Test.YtodlpofpeoiedaaAH0
namespace Go.Proofs.Ytodlpofpeoiedaa
open Go.RowKit Go.Sort

theorem ext_list (s : ByteArray) (i j : Nat) : (s.extract i j).data.toList = (s.data.toList.drop i).take (j - i) := by
  rw [ByteArray.data_extract, Array.toList_extract, List.extract_eq_take_drop]

theorem byte_of {x : Int} (h0 : 0 ≤ x) (h1 : x ≤ 255) : ((UInt8.ofNat (x % 256).toNat).toNat : Int) = x := by
  simp
  omega
theorem word_of {x : Int} (h0 : 0 ≤ x) (h1 : x ≤ 65535) : ((UInt8.ofNat (x / 256 % 256).toNat).toNat : Int) * 256 + ((UInt8.ofNat (x % 256).toNat).toNat : Int) = x := by
  simp
  omega

theorem beV_one (b : UInt8) : beV [b] = b.toNat := by simp [beV]
theorem beV_two (b c : UInt8) : beV [b, c] = b.toNat * 256 + c.toNat := by simp [beV]

def B1 (x : Int) : UInt8 := UInt8.ofNat (x % 256).toNat
def H1 (x : Int) : UInt8 := UInt8.ofNat (x / 256 % 256).toNat

theorem catF_list (f : Fmt) : (catF (fieldsF f) ++ ⟨#[0, 0, 0]⟩ : ByteArray).data.toList =
    [B1 f.bits, B1 f.depth, B1 (b2i f.big), B1 (b2i f.tru), H1 f.rm, B1 f.rm, H1 f.gm, B1 f.gm, H1 f.bm, B1 f.bm, B1 f.rs, B1 f.gs, B1 f.bs, 0, 0, 0] := by
  simp [catF, fieldsF, beB, strOfNums_mk, leI, B1, H1]

theorem raw_back (f : Fmt) (s : ByteArray) (T : List UInt8) (hs : s.data.toList = [B1 f.bits, B1 f.depth, B1 (b2i f.big), B1 (b2i f.tru), H1 f.rm, B1 f.rm, H1 f.gm, B1 f.gm, H1 f.bm, B1 f.bm, B1 f.rs, B1 f.gs, B1 f.bs, 0, 0, 0] ++ T)
    (h1 : 0 ≤ f.bits ∧ f.bits ≤ 255) (h2 : 0 ≤ f.depth ∧ f.depth ≤ 255) (h3 : 0 ≤ f.rm ∧ f.rm ≤ 65535) (h4 : 0 ≤ f.gm ∧ f.gm ≤ 65535) (h5 : 0 ≤ f.bm ∧ f.bm ≤ 65535)
    (h6 : 0 ≤ f.rs ∧ f.rs ≤ 255) (h7 : 0 ≤ f.gs ∧ f.gs ≤ 255) (h8 : 0 ≤ f.bs ∧ f.bs ≤ 255) : rawF s = f := by
  have k0 : byteV s 0 = f.bits := by unfold byteV; rw [ext_list, hs]; exact (beV_one _).trans (byte_of h1.1 h1.2)
  have k1 : byteV s 1 = f.depth := by unfold byteV; rw [ext_list, hs]; exact (beV_one _).trans (byte_of h2.1 h2.2)
  have k2 : byteV s 2 = b2i f.big := by unfold byteV; rw [ext_list, hs]; exact (beV_one _).trans (byte_of (by cases f.big <;> decide) (by cases f.big <;> decide))
  have k3 : byteV s 3 = b2i f.tru := by unfold byteV; rw [ext_list, hs]; exact (beV_one _).trans (byte_of (by cases f.tru <;> decide) (by cases f.tru <;> decide))
  have k4 : wordV s 4 = f.rm := by unfold wordV; rw [ext_list, hs]; exact (beV_two _ _).trans (word_of h3.1 h3.2)
  have k6 : wordV s 6 = f.gm := by unfold wordV; rw [ext_list, hs]; exact (beV_two _ _).trans (word_of h4.1 h4.2)
  have k8 : wordV s 8 = f.bm := by unfold wordV; rw [ext_list, hs]; exact (beV_two _ _).trans (word_of h5.1 h5.2)
  have k10 : byteV s 10 = f.rs := by unfold byteV; rw [ext_list, hs]; exact (beV_one _).trans (byte_of h6.1 h6.2)
  have k11 : byteV s 11 = f.gs := by unfold byteV; rw [ext_list, hs]; exact (beV_one _).trans (byte_of h7.1 h7.2)
  have k12 : byteV s 12 = f.bs := by unfold byteV; rw [ext_list, hs]; exact (beV_one _).trans (byte_of h8.1 h8.2)
  unfold rawF
  rw [k0, k1, k2, k3, k4, k6, k8, k10, k11, k12]
  have eb : (b2i f.big != 0) = f.big := by cases f.big <;> rfl
  have et : (b2i f.tru != 0) = f.tru := by cases f.tru <;> rfl
  rw [eb, et]

theorem parse_back (f : Fmt) (t : ByteArray) (h : validB f = true) : parseF (bytesF f ++ t) = f ∧ parseE (bytesF f ++ t) = 0 ∧ (bytesF f).size = 16 := by
  obtain ⟨hb, r1, r2, r3, _⟩ := valid_parts h
  have hn : f.bits ≤ 32 := by omega
  obtain ⟨q1, q2, q3, q4⟩ := partOk_bd hn r1
  obtain ⟨q5, q6, q7, q8⟩ := partOk_bd hn r2
  obtain ⟨q9, q10, q11, q12⟩ := partOk_bd hn r3
  have hh : headOk f = true := by
    simp only [validB, Bool.and_eq_true] at h
    exact h.1.1.1.1
  have hh' := hh
  simp only [headOk, decide_eq_true_eq] at hh'
  obtain ⟨_, d1, d2, _⟩ := hh'
  have b0 : 0 ≤ b2i f.big ∧ b2i f.big < 256 := by cases f.big <;> decide
  have t0 : 0 ≤ b2i f.tru ∧ b2i f.tru < 256 := by cases f.tru <;> decide
  have hfit : allFit (fieldsF f) = true := by
    simp only [allFit, fieldsF, List.all_cons, List.all_nil, putFits, Bool.and_true, Bool.and_eq_true, decide_eq_true_eq]
    omega
  have e : bytesF f = catF (fieldsF f) ++ ⟨#[0, 0, 0]⟩ := by unfold bytesF; rw [if_pos hfit]
  have hl := catF_list f
  rw [← e] at hl
  have hz : (bytesF f).size = 16 := by
    have : (bytesF f).data.toList.length = 16 := by rw [hl]; rfl
    simpa using this
  have hr : rawF (bytesF f ++ t) = f := raw_back f _ t.data.toList (by rw [ByteArray.data_append, Array.toList_append, hl]) (by omega) (by omega) (by omega) (by omega) (by omega) (by omega) (by omega) (by omega)
  have hE : parseE (bytesF f ++ t) = 0 := by
    unfold parseE
    rw [if_neg (by rw [ByteArray.size_append, hz]; omega), hr, if_pos h]
  refine ⟨?_, hE, hz⟩
  unfold parseF
  rw [if_pos hE, hr]

end Go.Proofs.Ytodlpofpeoiedaa
