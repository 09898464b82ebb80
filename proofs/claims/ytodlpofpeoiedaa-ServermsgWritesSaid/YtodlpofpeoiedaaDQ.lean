/-
  One answer for the package's writers and the document's: heads, messages, results.
-/
import Derived.Test.YtodlpofpeoiedaaDP
namespace Go.Proofs.Ytodlpofpeoiedaa
open Go.RowKit Go.Sort

def hdP (x y ww hh en : Int) : Bool := (putE 2 x == 0) && (putE 2 y == 0) && (putE 2 ww == 0) && (putE 2 hh == 0) && !(signS en).toList.isEmpty
def hdS (x y ww hh en : Int) : ByteArray := putS 2 x ++ putS 2 y ++ putS 2 ww ++ putS 2 hh ++ signS en

theorem intsE_0 (k : Nat) (xs : List Int) : intsE k 0 xs = rE (xs.all fun x => putE k x == 0) := intsE_rE k xs true

theorem head53_any (x y ww hh en : Int) (w : World) :
    Calls Try.prog 53 #[.agg #[.int .i64 x, .int .i64 y, .int .i64 ww, .int .i64 hh, .int .i64 en]] w fun e w' => e = .returned (.tuple #[.string (rS (hdP x y ww hh en) (hdS x y ww hh en)), .int .i64 (rE (hdP x y ww hh en))]) ∧ Below w.heap.size w w' := by
  have h := put53_any x y ww hh en w
  rw [intsE_0, erAnd_rE, doneS_rE, ofL_append, ofL_data, ofL_ints_cons, ofL_ints_cons, ofL_ints_cons, ofL_ints_cons, ofL_ints_nil, app_e] at h
  have e1 : (([x, y, ww, hh].all fun x => putE 2 x == 0) && !(signS en).toList.isEmpty) = hdP x y ww hh en := by
    simp only [hdP, List.all_cons, List.all_nil, Bool.and_true, Bool.and_assoc]
  have e2 : putS 2 x ++ (putS 2 y ++ (putS 2 ww ++ putS 2 hh)) ++ signS en = hdS x y ww hh en := by
    simp only [hdS, ByteArray.append_assoc]
  rw [e1, e2] at h
  exact h

theorem head54_any (x y ww hh en : Int) (w : World) :
    Calls Try.prog 54 #[.agg #[.int .i64 x, .int .i64 y, .int .i64 ww, .int .i64 hh], .int .i64 en] w fun e w' => e = .returned (.tuple #[.string (rS (hdP x y ww hh en) (hdS x y ww hh en)), .int .i64 (rE (hdP x y ww hh en))]) ∧ Below w.heap.size w w' := by
  have h := rput54_walk x y ww hh en (putS 2 x ++ putS 2 y ++ putS 2 ww ++ putS 2 hh) ((putE 2 x == 0) && (putE 2 y == 0) && (putE 2 ww == 0) && (putE 2 hh == 0)) w (by rw [e_app]) (by simp only [Bool.true_and]) (by
    simp only [ByteArray.size_append]
    have h1 := putS_size 2 x
    have h2 := putS_size 2 y
    have h3 := putS_size 2 ww
    have h4 := putS_size 2 hh
    omega)
  exact h

def sayP (kd n : Int) (t : ByteArray) : Bool :=
  if kd == 6 then putE 2 n == 0 else if kd == 7 then true else if kd == 5 then (putE 4 t.size == 0) && decide ((t.size : Int) ≤ 4096) else false
def sayS (kd n : Int) (t : ByteArray) : ByteArray :=
  if kd == 6 then zeroB 2 ++ putS 2 n else if kd == 7 then putS 1 2 else if kd == 5 then putS 1 3 ++ zeroB 3 ++ putS 4 t.size ++ t else ⟨#[]⟩

theorem say_6 (n : Int) (t : ByteArray) : sayP 6 n t = (putE 2 n == 0) ∧ sayS 6 n t = zeroB 2 ++ putS 2 n := ⟨rfl, rfl⟩
theorem say_7 (n : Int) (t : ByteArray) : sayP 7 n t = true ∧ sayS 7 n t = putS 1 2 := ⟨rfl, rfl⟩
theorem say_5 (n : Int) (t : ByteArray) : sayP 5 n t = ((putE 4 t.size == 0) && decide ((t.size : Int) ≤ 4096)) ∧ sayS 5 n t = putS 1 3 ++ zeroB 3 ++ putS 4 t.size ++ t := ⟨rfl, rfl⟩
theorem say_0 (kd n : Int) (t : ByteArray) (h6 : (kd == 6) = false) (h7 : (kd == 7) = false) (h5 : (kd == 5) = false) : sayP kd n t = false ∧ sayS kd n t = ⟨#[]⟩ := by
  unfold sayP sayS
  rw [h6, h7, h5]
  exact ⟨rfl, rfl⟩

theorem zero2 : ofL (intsL 1 [0, 0]) = zeroB 2 := by decide
theorem zero3 : ofL (intsL 1 [3, 0, 0, 0]) = putS 1 3 ++ zeroB 3 := by decide
theorem two1 : ofL (intsL 1 [2]) = putS 1 2 := by decide
theorem all_00 : ([0, 0].all fun x : Int => putE 1 x == 0) = true := by decide
theorem all_2 : ([2].all fun x : Int => putE 1 x == 0) = true := by decide
theorem all_3 : ([3, 0, 0, 0].all fun x : Int => putE 1 x == 0) = true := by decide

theorem say55_any (kd : Int) (fl : Bool) (n a b c d : Int) (f : Fmt) (en : Value) (t : ByteArray) (w : World) (ht : t.size ≤ 109951162777) :
    Calls Try.prog 55 #[.agg (msgC kd fl n a b c d f en t)] w fun e w' => e = .returned (.tuple #[.string (rS (sayP kd n t) (sayS kd n t)), .int .i64 (rE (sayP kd n t))]) ∧ Below w.heap.size w w' := by
  by_cases h6 : kd = 6
  · subst h6
    rw [(say_6 n t).1, (say_6 n t).2]
    have h := say_update fl n a b c d f en t w
    rw [intsE_0, all_00, intsE_rE, doneS_rE, ofL_append, zero2, ofL_ints_cons, ofL_ints_nil, app_e] at h
    simp only [List.all_cons, List.all_nil, Bool.and_true, Bool.true_and] at h
    exact h
  by_cases h7 : kd = 7
  · subst h7
    rw [(say_7 n t).1, (say_7 n t).2]
    have h := say_bell fl n a b c d f en t w
    rw [intsE_0, all_2, doneS_rE, two1] at h
    exact h
  by_cases h5 : kd = 5
  · subst h5
    rw [(say_5 n t).1, (say_5 n t).2]
    have h := say_cut fl n a b c d f en t w ht
    rw [intsE_0, all_3, txtE_rE, intsE_rE, doneS_rE, ofL_append, zero3, ofL_txt] at h
    simp only [List.all_cons, List.all_nil, Bool.and_true, Bool.true_and] at h
    rw [Bool.and_comm, ← ByteArray.append_assoc] at h
    exact h
  have g6 : (kd == 6) = false := by simpa using h6
  have g7 : (kd == 7) = false := by simpa using h7
  have g5 : (kd == 5) = false := by simpa using h5
  rw [(say_0 kd n t g6 g7 g5).1, (say_0 kd n t g6 g7 g5).2]
  exact say_none kd fl n a b c d f en t w g6 g7 g5

theorem say56_any (kd : Int) (fl : Bool) (n a b c d : Int) (f : Fmt) (en : Value) (t : ByteArray) (w : World) (ht : t.size ≤ 109951162777) :
    Calls Try.prog 56 #[.agg (msgC kd fl n a b c d f en t)] w fun e w' => e = .returned (.tuple #[.string (rS (sayP kd n t) (sayS kd n t)), .int .i64 (rE (sayP kd n t))]) ∧ Below w.heap.size w w' := by
  by_cases h6 : kd = 6
  · subst h6
    rw [(say_6 n t).1, (say_6 n t).2]
    have h := rsay_update fl n a b c d f en t w
    rw [e_app, Bool.true_and] at h
    exact h
  by_cases h7 : kd = 7
  · subst h7
    rw [(say_7 n t).1, (say_7 n t).2]
    have h := rsay_bell fl n a b c d f en t w
    have e : (true && (putE 1 2 == 0)) = true := by decide
    rw [e_app, e] at h
    exact h
  by_cases h5 : kd = 5
  · subst h5
    rw [(say_5 n t).1, (say_5 n t).2]
    have h := rsay_cut fl n a b c d f en t w ht
    have e : (true && (putE 1 3 == 0) && (putE 4 t.size == 0) && decide ((t.size : Int) ≤ 4096)) = ((putE 4 t.size == 0) && decide ((t.size : Int) ≤ 4096)) := by
      have e0 : (putE 1 3 == 0) = true := by decide
      rw [e0, Bool.true_and, Bool.true_and]
    rw [e_app, e] at h
    exact h
  have g6 : (kd == 6) = false := by simpa using h6
  have g7 : (kd == 7) = false := by simpa using h7
  have g5 : (kd == 5) = false := by simpa using h5
  rw [(say_0 kd n t g6 g7 g5).1, (say_0 kd n t g6 g7 g5).2]
  exact rsay_none kd fl n a b c d f en t w g6 g7 g5

def resS (s : ByteArray) : ByteArray :=
  if s.toList.isEmpty then putS 4 0 else putS 4 1 ++ (putS 4 (s.extract 0 (min (s.size : Int) 4096).toNat).size ++ s.extract 0 (min (s.size : Int) 4096).toNat)

theorem cut_size (s : ByteArray) : (s.extract 0 (min (s.size : Int) 4096).toNat).size ≤ 4096 := by
  rw [ByteArray.size_extract]
  omega

theorem empty_of (s : ByteArray) (h : s.toList.isEmpty = true) : s = ⟨#[]⟩ := by
  rw [Lib.toList_data] at h
  rw [← ofL_data s]
  cases hl : s.data.toList with
  | nil => rfl
  | cons a l =>
    rw [hl] at h
    exact absurd h (by simp)

theorem res57_any (s : ByteArray) (w : World) (hs : s.size ≤ 1099511627776) :
    Calls Try.prog 57 #[.string s] w fun e w' => e = .returned (.string (resS s)) ∧ Below w.heap.size w w' := by
  cases h : s.toList.isEmpty with
  | true =>
    have e : resS s = ofL (intsL 4 [0]) := by
      unfold resS
      rw [h, ofL_ints_cons, ofL_ints_nil, app_e]
      rfl
    rw [e, empty_of s h]
    exact result57_nil w
  | false =>
    have e : resS s = ofL (intsL 4 [1] ++ txtL (s.extract 0 (min (s.size : Int) 4096).toNat)) := by
      unfold resS
      rw [h, ofL_append, ofL_txt, ofL_ints_cons, ofL_ints_nil, app_e]
      rfl
    rw [e]
    exact result57_some s _ w h hs rfl (cut_size s)

theorem res58_any (s : ByteArray) (w : World) (hs : s.size ≤ 1099511627776) :
    Calls Try.prog 58 #[.string s] w fun e w' => e = .returned (.string (resS s)) ∧ Below w.heap.size w w' := by
  cases h : s.toList.isEmpty with
  | true =>
    have e : resS s = (⟨#[]⟩ : ByteArray) ++ putS 4 0 := by
      unfold resS
      rw [h, e_app]
      rfl
    rw [e, empty_of s h]
    exact rresult58_nil w
  | false =>
    have e : resS s = (⟨#[]⟩ : ByteArray) ++ putS 4 1 ++ putS 4 (s.extract 0 (min (s.size : Int) 4096).toNat).size ++ s.extract 0 (min (s.size : Int) 4096).toNat := by
      unfold resS
      rw [h, e_app, ByteArray.append_assoc]
      rfl
    rw [e]
    exact rresult58_some s _ w h hs rfl (cut_size s)

end Go.Proofs.Ytodlpofpeoiedaa
