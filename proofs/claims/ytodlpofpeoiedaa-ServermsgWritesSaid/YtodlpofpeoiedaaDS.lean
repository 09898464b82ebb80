/-
  miradorlaw23.works says yes.
-/
import Derived.Test.YtodlpofpeoiedaaDR
namespace Go.Proofs.Ytodlpofpeoiedaa
open Go.RowKit Go.Sort

def s48 : ByteArray := ⟨#[0, 2, 0, 1] ++ (bytesF stdF).data ++ #[0, 0, 0, 1, 120]⟩

theorem s48_K : staK 2 1 stdF ⟨#[120]⟩ = 0 := by kernel_rfl
theorem s48_R : staR 2 1 stdF ⟨#[120]⟩ = s48 := by kernel_rfl
theorem s48_E : soE (s48 ++ ⟨#[121]⟩) = 0 := by kernel_rfl
theorem s48_X : stX (s48 ++ ⟨#[121]⟩) = 2 := by kernel_rfl
theorem s48_N : stN (s48 ++ ⟨#[121]⟩) = ⟨#[120]⟩ := by kernel_rfl
theorem s48_I : stI (s48 ++ ⟨#[121]⟩) = s48.size := by kernel_rfl
theorem s48_z : s48.size ≤ 5000 := by decide

theorem works48_any (w : World) : Calls Try.prog 48 #[] w fun e w' => e = .returned (.bool true) ∧ Below w.heap.size w w' := by
  refine works48_a s48 (stY (s48 ++ ⟨#[121]⟩)) (stF (s48 ++ ⟨#[121]⟩)) w s48_z (hide ?_) (hide ?_) (hide ?_) (hide ?_) (hide ?_)
  · intro b w hb
    have h := kinds49_any (some ⟨b, 0, none⟩) 1 1 [1] w (hide ⟨rfl, .inr ⟨b, 0, rfl, hb.lt, fun j hj => by
      have e : j = 0 := by omega
      subst e
      exact hb.cell 0⟩⟩) (by decide)
    have e1 : kP 1 [1] = true := by decide
    have e2 : rS true (kS 1 [1]) = ⟨#[1, 1]⟩ := by decide
    rw [e1, e2] at h
    exact h
  · intro w
    have h := say55_any 7 false 0 0 0 0 0 zeroF (.slice none 0 0) ⟨#[]⟩ w (by decide)
    have e2 : rS true (putS 1 2) = ⟨#[2]⟩ := by decide
    rw [(say_7 0 ⟨#[]⟩).1, (say_7 0 ⟨#[]⟩).2, e2] at h
    exact h
  · intro w
    have h := sta51_any 2 1 stdF ⟨#[120]⟩ w ⟨by decide, by decide, by decide⟩ (by decide)
    rw [s48_K, s48_R] at h
    exact h
  · intro w
    have h := startOf64_any (s48 ++ ⟨#[121]⟩) w (by decide)
    rw [s48_E, s48_X, s48_N, s48_I] at h
    exact h
  · intro w
    have h := result57_nil w
    have e : (⟨(intsL 4 [0]).toArray⟩ : ByteArray) = ⟨#[0, 0, 0, 0]⟩ := by decide
    rw [e] at h
    exact h

end Go.Proofs.Ytodlpofpeoiedaa
