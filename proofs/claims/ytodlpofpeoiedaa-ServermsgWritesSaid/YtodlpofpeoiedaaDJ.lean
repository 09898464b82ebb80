/-
  The start of bytes: servermsg.StartOf's walk.
-/
import Derived.Test.YtodlpofpeoiedaaDI
import Derived.Deep.DeepCutAuto
import Derived.Laws.Rows
import Derived.Laws.Tables
namespace Go.Proofs.Ytodlpofpeoiedaa
open Go.RowKit Go.Sort

theorem Blk.row {b t : Nat} {C C' : Array Value} {w : World} (h : Blk b t C w) : Blk b t C' (w.setRow b C') := by
  unfold Blk at *
  simp [World.setRow, Array.getElem?_modify, h]
theorem only_row (b : Nat) (w : World) (C : Array Value) : Only b w (w.setRow b C) := ⟨rfl, rfl, rfl, by simp [World.setRow], fun k _ hk => by
  have : b ≠ k := fun e => hk (by rw [e])
  simp [World.setRow, Array.getElem?_modify, this]⟩

theorem Only2.of1 (br bc : Nat) {b : Nat} {w0 w w' : World} (hb : w0.heap.size ≤ b) (h : Only b w w') (k : Only2 br bc w0 w) : Only2 br bc w0 w' :=
  ⟨h.os.trans k.1, h.tape.trans k.2.1, h.output.trans k.2.2.1, Nat.le_trans k.2.2.2.1 h.size, fun i hi h1 h2 => (h.block i (Nat.lt_of_lt_of_le hi k.2.2.2.1) (fun e => absurd (show i = b by simpa using e) (by omega))).trans (k.2.2.2.2 i hi h1 h2)⟩
theorem IsCur.only {T b g : Nat} {c : Cu} {w w' : World} (h : IsCur T b c w) (ho : Only g w w') (hne : b ≠ g) : IsCur T b c w' := (ho.block b h.lt (fun e => hne (by simpa using e))).trans h

/-- What the first statement leaves: a block for the start. -/
def StRel (br bc : Nat) (c : Cu) (er x y : Int) (w : World) (s : Value) (wx : World) : Prop :=
  ∃ bt, s = .pointer (some ⟨bt, 0, none⟩) ∧ Blk bt 58 #[.int .i64 x, .int .i64 y, .int .i64 0, .int .i64 0, .bool false, .bool false, .int .i64 0, .int .i64 0, .int .i64 0, .int .i64 0, .int .i64 0, .int .i64 0, .string ⟨#[]⟩] wx ∧
    Blk w.heap.size 58 #[.int .i64 0, .int .i64 0, .int .i64 0, .int .i64 0, .bool false, .bool false, .int .i64 0, .int .i64 0, .int .i64 0, .int .i64 0, .int .i64 0, .int .i64 0, .string ⟨#[]⟩] wx ∧ IsRd br bc c er wx ∧ Only2 br bc w wx ∧ w.heap.size < bt

set_option maxHeartbeats 6400000 in
set_option maxRecDepth 100000 in
theorem startOf_no0 (br bc : Nat) (c : Cu) (er : Int) (w : World) (h : IsRd br bc c er w) (hne : Hid (br ≠ bc)) (ok0 : Hid c.ok) (x y : Int) (d d3 : Cu) (S : ByteArray) (f : Fmt) (pe e1 e2 : Int) (hx : Hid (c.int 2 = x)) (hy : Hid ((c.bytes 2).int 2 = y)) (hd : Hid ((c.bytes 2).bytes 2 = d)) (hS : Hid (d.out 16 = S)) (h3 : Hid (d.bytes 16 = d3))
    (hx0 : (x == 0) = true) (hE1 : Hid (rdF d3 er true 3 = e1)) (hE2 : Hid (rdF d3 e1 (pe != 0) pe = e2)) (hz : (e2 == 0) = false)
    (KP : Hid (∀ w, Calls Try.prog 15 #[.string S] w fun e w' => e = .returned (.tuple #[fmtV f, .int .i64 pe]) ∧ Below w.heap.size w w')) :
    Calls Try.prog 119 #[.pointer (some ⟨br, 0, none⟩)] w fun e w' => e = .returned (.agg (staC x y zeroF ⟨#[]⟩)) ∧ IsRd br bc d3 e2 w' ∧ Only2 br bc w w' := by
  have ok1 := hide (cu_ok c 2 ok0.out)
  have ok2 : Hid d.ok := hide (by rw [← hd.out]; exact cu_ok _ 2 ok1.out)
  have hbr : br < w.heap.size := h.1.lt
  have hbc : bc < w.heap.size := h.2.lt
  have nF : Hid (w.heap.size ≠ bc) := hide (by omega)
  have F0 := hide (Blk.new w 58 #[.int .i64 0, .int .i64 0, .int .i64 0, .int .i64 0, .bool false, .bool false, .int .i64 0, .int .i64 0, .int .i64 0, .int .i64 0, .int .i64 0, .int .i64 0, .string ⟨#[]⟩])
  have R0 := hide (h.below ((Below.refl _ _).alloc (Nat.le_refl _) (.cells #[.int .i64 0, .int .i64 0, .int .i64 0, .int .i64 0, .bool false, .bool false, .int .i64 0, .int .i64 0, .int .i64 0, .int .i64 0, .int .i64 0, .int .i64 0, .string ⟨#[]⟩] 58)))
  have O0 := hide (Only2.of (br := br) (bc := bc) ((Below.refl w.heap.size w).alloc (Nat.le_refl _) (.cells #[.int .i64 0, .int .i64 0, .int .i64 0, .int .i64 0, .bool false, .bool false, .int .i64 0, .int .i64 0, .int .i64 0, .int .i64 0, .int .i64 0, .int .i64 0, .string ⟨#[]⟩] 58)))
  have Z0 : w.heap.size < (w.alloc (.cells #[.int .i64 0, .int .i64 0, .int .i64 0, .int .i64 0, .bool false, .bool false, .int .i64 0, .int .i64 0, .int .i64 0, .int .i64 0, .int .i64 0, .int .i64 0, .string ⟨#[]⟩] 58)).heap.size := by rw [World.size_alloc]; omega
  clear h
  go_enter Try.func119, Try.ntmps119
  go_upto_region 1 with fail
  generalize w.alloc (.cells #[.int .i64 0, .int .i64 0, .int .i64 0, .int .i64 0, .bool false, .bool false, .int .i64 0, .int .i64 0, .int .i64 0, .int .i64 0, .int .i64 0, .int .i64 0, .string ⟨#[]⟩] 58) = w0 at *
  go_cut [3] (fun s3 wx => StRel br bc ((c.bytes 2).bytes 2) er (c.int 2) ((c.bytes 2).int 2) w s3 wx)
  case first =>
    have F1 := hide (show Blk w.heap.size 58 #[.int .i64 0, .int .i64 0, .int .i64 0, .int .i64 0, .bool false, .bool false, .int .i64 0, .int .i64 0, .int .i64 0, .int .i64 0, .int .i64 0, .int .i64 0, .string ⟨#[]⟩] w0.drew from F0.out)
    have R1 := hide (show IsRd br bc c er w0.drew from R0.out)
    have O1 := hide (show Only2 br bc w w0.drew from O0.out)
    have Z1 : w.heap.size < w0.drew.heap.size := Z0
    clear F0 R0 O0 Z0
    refine pt_region (.q 0 (.q 1 (.q 2 (.q 3 (.q 5 (.q 6 (.q 7 (.q 8 (.two 4 11 (.two 9 11 (.q 10 (.e 11 (.e 12 .nil))) (.e 9 (.q 10 (.e 12 .nil)))) (.e 4 (.e 9 (.q 10 (.e 12 .nil))))))))))))) (fun w' => w'.cell? ⟨br, 0, none⟩ = some (.pointer (some ⟨bc, 0, none⟩))) [12] rfl (by kernel_rfl) (fun _ _ d _ _ h => by cases d <;> exact h) ?_
    generalize w0.drew = w1 at *
    refine pt_v (i := 0) (N := (some 6)) (v := ?vr0) (a' := ?br0) rfl rfl R1.out.ptr (by rfl) ?hyr0 ?har0 ?_
    case hyr0 =>
      intro w' hS'
      go_simp
      with_reducible rfl
    case har0 =>
      simp only [Act.put, List.setIfInBounds_toArray, List.set_cons_zero, List.set_cons_succ]
      rfl
    refine pt_v (i := 1) (N := (some 7)) (v := ?vr1) (a' := ?br1) rfl rfl R1.out.ptr (by rfl) ?hyr1 ?har1 ?_
    case hyr1 =>
      intro w' hS'
      go_simp
      with_reducible rfl
    case har1 =>
      simp only [Act.put, List.setIfInBounds_toArray, List.set_cons_zero, List.set_cons_succ]
      rfl
    refine pt_v (i := 2) (N := (some 8)) (v := ?vr2) (a' := ?br2) rfl rfl R1.out.ptr (by rfl) ?hyr2 ?har2 ?_
    case hyr2 =>
      intro w' hS'
      go_simp
      with_reducible rfl
    case har2 =>
      simp only [Act.put, List.setIfInBounds_toArray, List.set_cons_zero, List.set_cons_succ]
      rfl
    refine pt_v (i := 3) (N := (some 9)) (v := ?vr3) (a' := ?br3) rfl rfl R1.out.ptr (by rfl) ?hyr3 ?har3 ?_
    case hyr3 =>
      intro w' hS'
      have x0 := hS'
      go_simp
      with_reducible rfl
    case har3 =>
      simp only [Act.put, List.setIfInBounds_toArray, List.set_cons_zero, List.set_cons_succ]
      rfl
    refine pt_v (i := 5) (N := (some 11)) (v := ?vr5) (a' := ?br5) rfl rfl R1.out.ptr (by rfl) ?hyr5 ?har5 ?_
    case hyr5 =>
      intro w' hS'
      go_simp
      with_reducible rfl
    case har5 =>
      simp only [Act.put, List.setIfInBounds_toArray, List.set_cons_zero, List.set_cons_succ]
      rfl
    refine pt_v (i := 6) (N := (some 12)) (v := ?vr6) (a' := ?br6) rfl rfl R1.out.ptr (by rfl) ?hyr6 ?har6 ?_
    case hyr6 =>
      intro w' hS'
      go_simp
      with_reducible rfl
    case har6 =>
      simp only [Act.put, List.setIfInBounds_toArray, List.set_cons_zero, List.set_cons_succ]
      rfl
    refine pt_v (i := 7) (N := (some 13)) (v := ?vr7) (a' := ?br7) rfl rfl R1.out.ptr (by rfl) ?hyr7 ?har7 ?_
    case hyr7 =>
      intro w' hS'
      go_simp
      with_reducible rfl
    case har7 =>
      simp only [Act.put, List.setIfInBounds_toArray, List.set_cons_zero, List.set_cons_succ]
      rfl
    refine pt_v (i := 8) (N := (some 14)) (v := ?vr8) (a' := ?br8) rfl rfl R1.out.ptr (by rfl) ?hyr8 ?har8 ?_
    case hyr8 =>
      intro w' hS'
      have x0 := hS'
      go_simp
      with_reducible rfl
    case har8 =>
      simp only [Act.put, List.setIfInBounds_toArray, List.set_cons_zero, List.set_cons_succ]
      rfl
    refine pt_two (i := 4) (j := 11) rfl rfl (by rfl) (by rfl) (fun K hK => ?_) (fun K hK => ?_)
    · go_simp
      refine (int_any bc c 2 (by simp) _ R1.out.2 ok0.out).mono ?_
      rintro e w2 ⟨rfl, hc, ho⟩
      have R2 := hide (R1.out.step hne.out hc ho)
      have O2 := hide (O1.out.trans (Only2.cur ho))
      have F2 := hide (F1.out.only ho nF.out)
      have Z2 := Nat.le_trans Z1 ho.size
      clear hc ho
      refine hK _ _ (fun _ => R2.out.ptr) ?_
      clear hK K
      refine pt_two (i := 9) (j := 11) rfl rfl (by rfl) (by rfl) (fun K hK => ?_) (fun K hK => ?_)
      · go_simp
        refine (int_any bc (c.bytes 2) 2 (by simp) _ R2.out.2 ok1.out).mono ?_
        rintro e w3 ⟨rfl, hc, ho⟩
        have R3 := hide (R2.out.step hne.out hc ho)
        have O3 := hide (O2.out.trans (Only2.cur ho))
        have F3 := hide (F2.out.only ho nF.out)
        have Z3 := Nat.le_trans Z2 ho.size
        clear hc ho
        refine hK _ _ (fun _ => R3.out.ptr) ?_
        clear hK K
        refine pt_v (i := 10) (N := (some 16)) (v := ?va10) (a' := ?ba10) rfl rfl R3.out.ptr (by rfl) ?hya10 ?haa10 ?_
        case hya10 =>
          intro w' hS'
          go_simp
          with_reducible rfl
        case haa10 =>
          simp only [Act.put, List.setIfInBounds_toArray, List.set_cons_zero, List.set_cons_succ]
          rfl
        refine pt_e (i := 11) rfl (by rfl) (fun K hK => ?_)
        go_simp
        have R4 := hide (R3.out.below ((Below.refl _ _).alloc (Nat.le_refl _) (.cells #[.int .i64 0, .int .i64 0, .int .i64 0, .int .i64 0, .bool false, .bool false, .int .i64 0, .int .i64 0, .int .i64 0, .int .i64 0, .int .i64 0, .int .i64 0, .string ⟨#[]⟩] 58)))
        have O4 := hide (O3.out.trans (Only2.of ((Below.refl _ _).alloc (Nat.le_refl _) (.cells #[.int .i64 0, .int .i64 0, .int .i64 0, .int .i64 0, .bool false, .bool false, .int .i64 0, .int .i64 0, .int .i64 0, .int .i64 0, .int .i64 0, .int .i64 0, .string ⟨#[]⟩] 58))))
        have F4 := hide (F3.out.alloc (.cells #[.int .i64 0, .int .i64 0, .int .i64 0, .int .i64 0, .bool false, .bool false, .int .i64 0, .int .i64 0, .int .i64 0, .int .i64 0, .int .i64 0, .int .i64 0, .string ⟨#[]⟩] 58))
        have T4 := hide (Blk.new w3 58 #[.int .i64 0, .int .i64 0, .int .i64 0, .int .i64 0, .bool false, .bool false, .int .i64 0, .int .i64 0, .int .i64 0, .int .i64 0, .int .i64 0, .int .i64 0, .string ⟨#[]⟩])
        have Z4 : w.heap.size < (w3.alloc (.cells #[.int .i64 0, .int .i64 0, .int .i64 0, .int .i64 0, .bool false, .bool false, .int .i64 0, .int .i64 0, .int .i64 0, .int .i64 0, .int .i64 0, .int .i64 0, .string ⟨#[]⟩] 58)).heap.size := by rw [World.size_alloc]; omega
        refine hK _ _ (fun _ => R4.out.ptr) ?_
        clear hK K
        obtain ⟨w4, hw⟩ : ∃ w4 : World, w4 = w3.alloc (.cells #[.int .i64 0, .int .i64 0, .int .i64 0, .int .i64 0, .bool false, .bool false, .int .i64 0, .int .i64 0, .int .i64 0, .int .i64 0, .int .i64 0, .int .i64 0, .string ⟨#[]⟩] 58) := ⟨_, rfl⟩
        rw [← hw] at R4 O4 F4 T4 Z4 ⊢
        clear hw
        refine pt_e (i := 12) rfl (by rfl) (fun K hK => ?_)
        refine wp_store_row 58 (.tmp 3) (.tmp 16) rfl w3.heap.size _ rfl rfl 58 _ T4.out (by kernel_rfl) rfl (by simp [Value.oneCell']) ?_
        refine hK _ _ (fun h => absurd (by simp) h) ?_
        clear hK K
        refine pt_done ?_
        go_wp2_with fail
        go_meet
        exact ⟨w3.heap.size, rfl, T4.out.row, F4.out.only (only_row _ _ _) (by omega), ⟨R4.out.1.only (only_row _ _ _) (by omega), (R4.out.2.only (only_row _ _ _) (by omega))⟩, Only2.of1 br bc (by omega) (only_row _ _ _) O4.out, by omega⟩
      · go_simp
        have R3 := hide (R2.out.below ((Below.refl _ _).alloc (Nat.le_refl _) (.cells #[.int .i64 0, .int .i64 0, .int .i64 0, .int .i64 0, .bool false, .bool false, .int .i64 0, .int .i64 0, .int .i64 0, .int .i64 0, .int .i64 0, .int .i64 0, .string ⟨#[]⟩] 58)))
        have O3 := hide (O2.out.trans (Only2.of ((Below.refl _ _).alloc (Nat.le_refl _) (.cells #[.int .i64 0, .int .i64 0, .int .i64 0, .int .i64 0, .bool false, .bool false, .int .i64 0, .int .i64 0, .int .i64 0, .int .i64 0, .int .i64 0, .int .i64 0, .string ⟨#[]⟩] 58))))
        have F3 := hide (F2.out.alloc (.cells #[.int .i64 0, .int .i64 0, .int .i64 0, .int .i64 0, .bool false, .bool false, .int .i64 0, .int .i64 0, .int .i64 0, .int .i64 0, .int .i64 0, .int .i64 0, .string ⟨#[]⟩] 58))
        have T3 := hide (Blk.new w2 58 #[.int .i64 0, .int .i64 0, .int .i64 0, .int .i64 0, .bool false, .bool false, .int .i64 0, .int .i64 0, .int .i64 0, .int .i64 0, .int .i64 0, .int .i64 0, .string ⟨#[]⟩])
        have Z3 : w.heap.size < (w2.alloc (.cells #[.int .i64 0, .int .i64 0, .int .i64 0, .int .i64 0, .bool false, .bool false, .int .i64 0, .int .i64 0, .int .i64 0, .int .i64 0, .int .i64 0, .int .i64 0, .string ⟨#[]⟩] 58)).heap.size := by rw [World.size_alloc]; omega
        refine hK _ _ (fun _ => R3.out.ptr) ?_
        clear hK K
        obtain ⟨w3, hw⟩ : ∃ w3 : World, w3 = w2.alloc (.cells #[.int .i64 0, .int .i64 0, .int .i64 0, .int .i64 0, .bool false, .bool false, .int .i64 0, .int .i64 0, .int .i64 0, .int .i64 0, .int .i64 0, .int .i64 0, .string ⟨#[]⟩] 58) := ⟨_, rfl⟩
        rw [← hw] at R3 O3 F3 T3 Z3 ⊢
        clear hw
        refine pt_e (i := 9) rfl (by rfl) (fun K hK => ?_)
        go_simp
        refine (int_any bc (c.bytes 2) 2 (by simp) _ R3.out.2 ok1.out).mono ?_
        rintro e w4 ⟨rfl, hc, ho⟩
        have R4 := hide (R3.out.step hne.out hc ho)
        have O4 := hide (O3.out.trans (Only2.cur ho))
        have F4 := hide (F3.out.only ho nF.out)
        have Z4 := Nat.le_trans Z3 ho.size
        have T4 := hide (T3.out.only ho (by omega))
        clear hc ho
        refine hK _ _ (fun _ => R4.out.ptr) ?_
        clear hK K
        refine pt_v (i := 10) (N := (some 16)) (v := ?vb10) (a' := ?bb10) rfl rfl R4.out.ptr (by rfl) ?hyb10 ?hab10 ?_
        case hyb10 =>
          intro w' hS'
          go_simp
          with_reducible rfl
        case hab10 =>
          simp only [Act.put, List.setIfInBounds_toArray, List.set_cons_zero, List.set_cons_succ]
          rfl
        refine pt_e (i := 12) rfl (by rfl) (fun K hK => ?_)
        refine wp_store_row 58 (.tmp 3) (.tmp 16) rfl w2.heap.size _ rfl rfl 58 _ T4.out (by kernel_rfl) rfl (by simp [Value.oneCell']) ?_
        refine hK _ _ (fun h => absurd (by simp) h) ?_
        clear hK K
        refine pt_done ?_
        go_wp2_with fail
        go_meet
        exact ⟨w2.heap.size, rfl, T4.out.row, F4.out.only (only_row _ _ _) (by omega), ⟨R4.out.1.only (only_row _ _ _) (by omega), (R4.out.2.only (only_row _ _ _) (by omega))⟩, Only2.of1 br bc (by omega) (only_row _ _ _) O4.out, by omega⟩
    · go_simp
      have R2 := hide (R1.out.below ((Below.refl _ _).alloc (Nat.le_refl _) (.cells #[.int .i64 0, .int .i64 0, .int .i64 0, .int .i64 0, .bool false, .bool false, .int .i64 0, .int .i64 0, .int .i64 0, .int .i64 0, .int .i64 0, .int .i64 0, .string ⟨#[]⟩] 58)))
      have O2 := hide (O1.out.trans (Only2.of ((Below.refl _ _).alloc (Nat.le_refl _) (.cells #[.int .i64 0, .int .i64 0, .int .i64 0, .int .i64 0, .bool false, .bool false, .int .i64 0, .int .i64 0, .int .i64 0, .int .i64 0, .int .i64 0, .int .i64 0, .string ⟨#[]⟩] 58))))
      have F2 := hide (F1.out.alloc (.cells #[.int .i64 0, .int .i64 0, .int .i64 0, .int .i64 0, .bool false, .bool false, .int .i64 0, .int .i64 0, .int .i64 0, .int .i64 0, .int .i64 0, .int .i64 0, .string ⟨#[]⟩] 58))
      have T2 := hide (Blk.new w1 58 #[.int .i64 0, .int .i64 0, .int .i64 0, .int .i64 0, .bool false, .bool false, .int .i64 0, .int .i64 0, .int .i64 0, .int .i64 0, .int .i64 0, .int .i64 0, .string ⟨#[]⟩])
      have Z2 : w.heap.size < (w1.alloc (.cells #[.int .i64 0, .int .i64 0, .int .i64 0, .int .i64 0, .bool false, .bool false, .int .i64 0, .int .i64 0, .int .i64 0, .int .i64 0, .int .i64 0, .int .i64 0, .string ⟨#[]⟩] 58)).heap.size := by rw [World.size_alloc]; omega
      refine hK _ _ (fun _ => R2.out.ptr) ?_
      clear hK K
      obtain ⟨w2, hw⟩ : ∃ w2 : World, w2 = w1.alloc (.cells #[.int .i64 0, .int .i64 0, .int .i64 0, .int .i64 0, .bool false, .bool false, .int .i64 0, .int .i64 0, .int .i64 0, .int .i64 0, .int .i64 0, .int .i64 0, .string ⟨#[]⟩] 58) := ⟨_, rfl⟩
      rw [← hw] at R2 O2 F2 T2 Z2 ⊢
      clear hw
      refine pt_e (i := 4) rfl (by rfl) (fun K hK => ?_)
      go_simp
      refine (int_any bc c 2 (by simp) _ R2.out.2 ok0.out).mono ?_
      rintro e w3 ⟨rfl, hc, ho⟩
      have R3 := hide (R2.out.step hne.out hc ho)
      have O3 := hide (O2.out.trans (Only2.cur ho))
      have F3 := hide (F2.out.only ho nF.out)
      have Z3 := Nat.le_trans Z2 ho.size
      have T3 := hide (T2.out.only ho (by omega))
      clear hc ho
      refine hK _ _ (fun _ => R3.out.ptr) ?_
      clear hK K
      refine pt_e (i := 9) rfl (by rfl) (fun K hK => ?_)
      go_simp
      refine (int_any bc (c.bytes 2) 2 (by simp) _ R3.out.2 ok1.out).mono ?_
      rintro e w4 ⟨rfl, hc, ho⟩
      have R4 := hide (R3.out.step hne.out hc ho)
      have O4 := hide (O3.out.trans (Only2.cur ho))
      have F4 := hide (F3.out.only ho nF.out)
      have Z4 := Nat.le_trans Z3 ho.size
      have T4 := hide (T3.out.only ho (by omega))
      clear hc ho
      refine hK _ _ (fun _ => R4.out.ptr) ?_
      clear hK K
      refine pt_v (i := 10) (N := (some 16)) (v := ?vc10) (a' := ?bc10) rfl rfl R4.out.ptr (by rfl) ?hyc10 ?hac10 ?_
      case hyc10 =>
        intro w' hS'
        go_simp
        with_reducible rfl
      case hac10 =>
        simp only [Act.put, List.setIfInBounds_toArray, List.set_cons_zero, List.set_cons_succ]
        rfl
      refine pt_e (i := 12) rfl (by rfl) (fun K hK => ?_)
      refine wp_store_row 58 (.tmp 3) (.tmp 16) rfl w1.heap.size _ rfl rfl 58 _ T4.out (by kernel_rfl) rfl (by simp [Value.oneCell']) ?_
      refine hK _ _ (fun h => absurd (by simp) h) ?_
      clear hK K
      refine pt_done ?_
      go_wp2_with fail
      go_meet
      exact ⟨w1.heap.size, rfl, T4.out.row, F4.out.only (only_row _ _ _) (by omega), ⟨R4.out.1.only (only_row _ _ _) (by omega), (R4.out.2.only (only_row _ _ _) (by omega))⟩, Only2.of1 br bc (by omega) (only_row _ _ _) O4.out, by omega⟩
  case rest =>
    obtain ⟨bt, rfl, hT5, hF5, hR5, hO5, hlt⟩ := hcut
    obtain ⟨w5, hw5⟩ : ∃ w5 : World, w5 = wc := ⟨_, rfl⟩
    rw [← hw5] at hT5 hF5 hR5 hO5
    rw [← hw5]
    clear hw5
    rw [hx.out, hy.out] at hT5
    rw [hd.out] at hR5
    have T5 := hide hT5
    have F5 := hide hF5
    have R5 := hide hR5
    have O5 := hide hO5
    have Z5 : w.heap.size < w5.heap.size := F5.out.lt
    have nT : Hid (bt ≠ bc) := hide (by omega)
    have nTr : Hid (bt ≠ br) := hide (by omega)
    have nFr : Hid (w.heap.size ≠ br) := hide (by omega)
    clear hT5 hF5 hR5 hO5
    have okd := ok2
    have x0 := R5.out.ptr
    go_wp2_with fail
    refine (bytes_any bc d 16 _ R5.out.2 okd.out (by decide)).mono ?_
    rintro e w6 ⟨rfl, hc, ho⟩
    have R6 := hide (R5.out.step hne.out hc ho)
    have O6 := hide (O5.out.trans (Only2.cur ho))
    have F6 := hide (F5.out.only ho nF.out)
    have T6 := hide (T5.out.only ho nT.out)
    have Z6 := Nat.le_trans Z5 ho.size
    clear hc ho
    clear x0
    rw [hS.out]
    rw [h3.out] at R6
    go_wp2_with fail
    refine (KP.out _).mono ?_
    rintro e w7 ⟨rfl, hb⟩
    have R7 := hide (R6.out.below hb)
    have O7 := hide (O6.out.trans (Only2.of hb))
    have F7 := hide (F6.out.below hb)
    have T7 := hide (T6.out.below hb)
    have Z7 := Nat.le_trans Z6 hb.size
    clear hb
    have G7 := hide (Blk.new w7 23 (fmtC f))
    have R7b := hide (R7.out.below ((Below.refl _ _).alloc (Nat.le_refl _) (.cells (fmtC f) 23)))
    have O7b := hide (O7.out.trans (Only2.of ((Below.refl _ _).alloc (Nat.le_refl _) (.cells (fmtC f) 23))))
    have F7b := hide (F7.out.alloc (.cells (fmtC f) 23))
    have T7b := hide (T7.out.alloc (.cells (fmtC f) 23))
    have Z7b : w.heap.size < (w7.alloc (.cells (fmtC f) 23)).heap.size := Nat.lt_trans Z7 (by rw [World.size_alloc]; omega)
    have y0 : (w7.alloc (.cells (fmtC f) 23)).cell? ⟨bt, 0, none⟩ = some (.int .i64 x) := T7b.out.cell 0
    go_wp2_with fail
    refine (fail111_any br bc d3 er 3 true _ R7b.out hne.out).mono ?_
    rintro e w8 ⟨rfl, hr, ho⟩
    rw [hE1.out] at hr
    have R8 := hide hr
    have O8 := hide (O7b.out.trans ho)
    have F8 := hide (ho.blk F7b.out nFr.out nF.out)
    have T8 := hide (ho.blk T7b.out nTr.out nT.out)
    have nG : Hid (w7.heap.size ≠ br ∧ w7.heap.size ≠ bc) := hide ⟨by omega, by omega⟩
    have G8 := hide (ho.blk G7.out nG.out.1 nG.out.2)
    have Z8 := Nat.le_trans Z7b ho.2.2.2.1
    clear hr ho y0
    go_wp2_with fail
    refine (fail111_any br bc d3 e1 pe (pe != 0) _ R8.out hne.out).mono ?_
    rintro e w9 ⟨rfl, hr, ho⟩
    rw [hE2.out] at hr
    have R9 := hide hr
    have O9 := hide (O8.out.trans ho)
    have F9 := hide (ho.blk F8.out nFr.out nF.out)
    have T9 := hide (ho.blk T8.out nTr.out nT.out)
    have G9 := hide (ho.blk G8.out nG.out.1 nG.out.2)
    have Z9 := Nat.le_trans Z8 ho.2.2.2.1
    clear hr ho
    have z1 := R9.out.err
    go_upto_region 7 with fail
    go_step
    refine wpList_load_row rfl 58 (.tmp 3) rfl bt rfl 58 _ _ _ T9.out Try.underlying58 rfl (by kernel_rfl) ?_
    refine wpList_store_row rfl 58 (.tmp 2) (.tmp 51) rfl w.heap.size (staC x y zeroF ⟨#[]⟩) rfl rfl 58 _ F9.out (by kernel_rfl) rfl (by simp [Value.oneCell']) ?_
    have FE := hide (Blk.row (C' := (staC x y zeroF ⟨#[]⟩)) F9.out)
    have on := hide (only_row w.heap.size w9 (staC x y zeroF ⟨#[]⟩))
    generalize w9.setRow w.heap.size (staC x y zeroF ⟨#[]⟩) = wz at *
    go_wp2_with fail
    refine bodyPost_ret (v := .agg (staC x y zeroF ⟨#[]⟩)) (results_cell_row rfl _ _ w.heap.size 58 _ (0, 0) _ rfl FE.out Try.underlying58 rfl (by kernel_rfl)) rfl ?_
    exact ⟨rfl, ⟨Blk.only R9.out.1 on.out nFr.out.symm, IsCur.only R9.out.2 on.out nF.out.symm⟩, Only2.of1 br bc (Nat.le_refl _) on.out O9.out⟩

set_option maxHeartbeats 6400000 in
set_option maxRecDepth 100000 in
theorem startOf_no1 (br bc : Nat) (c : Cu) (er : Int) (w : World) (h : IsRd br bc c er w) (hne : Hid (br ≠ bc)) (ok0 : Hid c.ok) (x y : Int) (d d3 : Cu) (S : ByteArray) (f : Fmt) (pe e1 e2 : Int) (hx : Hid (c.int 2 = x)) (hy : Hid ((c.bytes 2).int 2 = y)) (hd : Hid ((c.bytes 2).bytes 2 = d)) (hS : Hid (d.out 16 = S)) (h3 : Hid (d.bytes 16 = d3))
    (hx0 : (x == 0) = false) (hE1 : Hid (rdF d3 er (y == 0) 3 = e1)) (hE2 : Hid (rdF d3 e1 (pe != 0) pe = e2)) (hz : (e2 == 0) = false)
    (KP : Hid (∀ w, Calls Try.prog 15 #[.string S] w fun e w' => e = .returned (.tuple #[fmtV f, .int .i64 pe]) ∧ Below w.heap.size w w')) :
    Calls Try.prog 119 #[.pointer (some ⟨br, 0, none⟩)] w fun e w' => e = .returned (.agg (staC x y zeroF ⟨#[]⟩)) ∧ IsRd br bc d3 e2 w' ∧ Only2 br bc w w' := by
  have ok1 := hide (cu_ok c 2 ok0.out)
  have ok2 : Hid d.ok := hide (by rw [← hd.out]; exact cu_ok _ 2 ok1.out)
  have hbr : br < w.heap.size := h.1.lt
  have hbc : bc < w.heap.size := h.2.lt
  have nF : Hid (w.heap.size ≠ bc) := hide (by omega)
  have F0 := hide (Blk.new w 58 #[.int .i64 0, .int .i64 0, .int .i64 0, .int .i64 0, .bool false, .bool false, .int .i64 0, .int .i64 0, .int .i64 0, .int .i64 0, .int .i64 0, .int .i64 0, .string ⟨#[]⟩])
  have R0 := hide (h.below ((Below.refl _ _).alloc (Nat.le_refl _) (.cells #[.int .i64 0, .int .i64 0, .int .i64 0, .int .i64 0, .bool false, .bool false, .int .i64 0, .int .i64 0, .int .i64 0, .int .i64 0, .int .i64 0, .int .i64 0, .string ⟨#[]⟩] 58)))
  have O0 := hide (Only2.of (br := br) (bc := bc) ((Below.refl w.heap.size w).alloc (Nat.le_refl _) (.cells #[.int .i64 0, .int .i64 0, .int .i64 0, .int .i64 0, .bool false, .bool false, .int .i64 0, .int .i64 0, .int .i64 0, .int .i64 0, .int .i64 0, .int .i64 0, .string ⟨#[]⟩] 58)))
  have Z0 : w.heap.size < (w.alloc (.cells #[.int .i64 0, .int .i64 0, .int .i64 0, .int .i64 0, .bool false, .bool false, .int .i64 0, .int .i64 0, .int .i64 0, .int .i64 0, .int .i64 0, .int .i64 0, .string ⟨#[]⟩] 58)).heap.size := by rw [World.size_alloc]; omega
  clear h
  go_enter Try.func119, Try.ntmps119
  go_upto_region 1 with fail
  generalize w.alloc (.cells #[.int .i64 0, .int .i64 0, .int .i64 0, .int .i64 0, .bool false, .bool false, .int .i64 0, .int .i64 0, .int .i64 0, .int .i64 0, .int .i64 0, .int .i64 0, .string ⟨#[]⟩] 58) = w0 at *
  go_cut [3] (fun s3 wx => StRel br bc ((c.bytes 2).bytes 2) er (c.int 2) ((c.bytes 2).int 2) w s3 wx)
  case first =>
    have F1 := hide (show Blk w.heap.size 58 #[.int .i64 0, .int .i64 0, .int .i64 0, .int .i64 0, .bool false, .bool false, .int .i64 0, .int .i64 0, .int .i64 0, .int .i64 0, .int .i64 0, .int .i64 0, .string ⟨#[]⟩] w0.drew from F0.out)
    have R1 := hide (show IsRd br bc c er w0.drew from R0.out)
    have O1 := hide (show Only2 br bc w w0.drew from O0.out)
    have Z1 : w.heap.size < w0.drew.heap.size := Z0
    clear F0 R0 O0 Z0
    refine pt_region (.q 0 (.q 1 (.q 2 (.q 3 (.q 5 (.q 6 (.q 7 (.q 8 (.two 4 11 (.two 9 11 (.q 10 (.e 11 (.e 12 .nil))) (.e 9 (.q 10 (.e 12 .nil)))) (.e 4 (.e 9 (.q 10 (.e 12 .nil))))))))))))) (fun w' => w'.cell? ⟨br, 0, none⟩ = some (.pointer (some ⟨bc, 0, none⟩))) [12] rfl (by kernel_rfl) (fun _ _ d _ _ h => by cases d <;> exact h) ?_
    generalize w0.drew = w1 at *
    refine pt_v (i := 0) (N := (some 6)) (v := ?vr0) (a' := ?br0) rfl rfl R1.out.ptr (by rfl) ?hyr0 ?har0 ?_
    case hyr0 =>
      intro w' hS'
      go_simp
      with_reducible rfl
    case har0 =>
      simp only [Act.put, List.setIfInBounds_toArray, List.set_cons_zero, List.set_cons_succ]
      rfl
    refine pt_v (i := 1) (N := (some 7)) (v := ?vr1) (a' := ?br1) rfl rfl R1.out.ptr (by rfl) ?hyr1 ?har1 ?_
    case hyr1 =>
      intro w' hS'
      go_simp
      with_reducible rfl
    case har1 =>
      simp only [Act.put, List.setIfInBounds_toArray, List.set_cons_zero, List.set_cons_succ]
      rfl
    refine pt_v (i := 2) (N := (some 8)) (v := ?vr2) (a' := ?br2) rfl rfl R1.out.ptr (by rfl) ?hyr2 ?har2 ?_
    case hyr2 =>
      intro w' hS'
      go_simp
      with_reducible rfl
    case har2 =>
      simp only [Act.put, List.setIfInBounds_toArray, List.set_cons_zero, List.set_cons_succ]
      rfl
    refine pt_v (i := 3) (N := (some 9)) (v := ?vr3) (a' := ?br3) rfl rfl R1.out.ptr (by rfl) ?hyr3 ?har3 ?_
    case hyr3 =>
      intro w' hS'
      have x0 := hS'
      go_simp
      with_reducible rfl
    case har3 =>
      simp only [Act.put, List.setIfInBounds_toArray, List.set_cons_zero, List.set_cons_succ]
      rfl
    refine pt_v (i := 5) (N := (some 11)) (v := ?vr5) (a' := ?br5) rfl rfl R1.out.ptr (by rfl) ?hyr5 ?har5 ?_
    case hyr5 =>
      intro w' hS'
      go_simp
      with_reducible rfl
    case har5 =>
      simp only [Act.put, List.setIfInBounds_toArray, List.set_cons_zero, List.set_cons_succ]
      rfl
    refine pt_v (i := 6) (N := (some 12)) (v := ?vr6) (a' := ?br6) rfl rfl R1.out.ptr (by rfl) ?hyr6 ?har6 ?_
    case hyr6 =>
      intro w' hS'
      go_simp
      with_reducible rfl
    case har6 =>
      simp only [Act.put, List.setIfInBounds_toArray, List.set_cons_zero, List.set_cons_succ]
      rfl
    refine pt_v (i := 7) (N := (some 13)) (v := ?vr7) (a' := ?br7) rfl rfl R1.out.ptr (by rfl) ?hyr7 ?har7 ?_
    case hyr7 =>
      intro w' hS'
      go_simp
      with_reducible rfl
    case har7 =>
      simp only [Act.put, List.setIfInBounds_toArray, List.set_cons_zero, List.set_cons_succ]
      rfl
    refine pt_v (i := 8) (N := (some 14)) (v := ?vr8) (a' := ?br8) rfl rfl R1.out.ptr (by rfl) ?hyr8 ?har8 ?_
    case hyr8 =>
      intro w' hS'
      have x0 := hS'
      go_simp
      with_reducible rfl
    case har8 =>
      simp only [Act.put, List.setIfInBounds_toArray, List.set_cons_zero, List.set_cons_succ]
      rfl
    refine pt_two (i := 4) (j := 11) rfl rfl (by rfl) (by rfl) (fun K hK => ?_) (fun K hK => ?_)
    · go_simp
      refine (int_any bc c 2 (by simp) _ R1.out.2 ok0.out).mono ?_
      rintro e w2 ⟨rfl, hc, ho⟩
      have R2 := hide (R1.out.step hne.out hc ho)
      have O2 := hide (O1.out.trans (Only2.cur ho))
      have F2 := hide (F1.out.only ho nF.out)
      have Z2 := Nat.le_trans Z1 ho.size
      clear hc ho
      refine hK _ _ (fun _ => R2.out.ptr) ?_
      clear hK K
      refine pt_two (i := 9) (j := 11) rfl rfl (by rfl) (by rfl) (fun K hK => ?_) (fun K hK => ?_)
      · go_simp
        refine (int_any bc (c.bytes 2) 2 (by simp) _ R2.out.2 ok1.out).mono ?_
        rintro e w3 ⟨rfl, hc, ho⟩
        have R3 := hide (R2.out.step hne.out hc ho)
        have O3 := hide (O2.out.trans (Only2.cur ho))
        have F3 := hide (F2.out.only ho nF.out)
        have Z3 := Nat.le_trans Z2 ho.size
        clear hc ho
        refine hK _ _ (fun _ => R3.out.ptr) ?_
        clear hK K
        refine pt_v (i := 10) (N := (some 16)) (v := ?va10) (a' := ?ba10) rfl rfl R3.out.ptr (by rfl) ?hya10 ?haa10 ?_
        case hya10 =>
          intro w' hS'
          go_simp
          with_reducible rfl
        case haa10 =>
          simp only [Act.put, List.setIfInBounds_toArray, List.set_cons_zero, List.set_cons_succ]
          rfl
        refine pt_e (i := 11) rfl (by rfl) (fun K hK => ?_)
        go_simp
        have R4 := hide (R3.out.below ((Below.refl _ _).alloc (Nat.le_refl _) (.cells #[.int .i64 0, .int .i64 0, .int .i64 0, .int .i64 0, .bool false, .bool false, .int .i64 0, .int .i64 0, .int .i64 0, .int .i64 0, .int .i64 0, .int .i64 0, .string ⟨#[]⟩] 58)))
        have O4 := hide (O3.out.trans (Only2.of ((Below.refl _ _).alloc (Nat.le_refl _) (.cells #[.int .i64 0, .int .i64 0, .int .i64 0, .int .i64 0, .bool false, .bool false, .int .i64 0, .int .i64 0, .int .i64 0, .int .i64 0, .int .i64 0, .int .i64 0, .string ⟨#[]⟩] 58))))
        have F4 := hide (F3.out.alloc (.cells #[.int .i64 0, .int .i64 0, .int .i64 0, .int .i64 0, .bool false, .bool false, .int .i64 0, .int .i64 0, .int .i64 0, .int .i64 0, .int .i64 0, .int .i64 0, .string ⟨#[]⟩] 58))
        have T4 := hide (Blk.new w3 58 #[.int .i64 0, .int .i64 0, .int .i64 0, .int .i64 0, .bool false, .bool false, .int .i64 0, .int .i64 0, .int .i64 0, .int .i64 0, .int .i64 0, .int .i64 0, .string ⟨#[]⟩])
        have Z4 : w.heap.size < (w3.alloc (.cells #[.int .i64 0, .int .i64 0, .int .i64 0, .int .i64 0, .bool false, .bool false, .int .i64 0, .int .i64 0, .int .i64 0, .int .i64 0, .int .i64 0, .int .i64 0, .string ⟨#[]⟩] 58)).heap.size := by rw [World.size_alloc]; omega
        refine hK _ _ (fun _ => R4.out.ptr) ?_
        clear hK K
        obtain ⟨w4, hw⟩ : ∃ w4 : World, w4 = w3.alloc (.cells #[.int .i64 0, .int .i64 0, .int .i64 0, .int .i64 0, .bool false, .bool false, .int .i64 0, .int .i64 0, .int .i64 0, .int .i64 0, .int .i64 0, .int .i64 0, .string ⟨#[]⟩] 58) := ⟨_, rfl⟩
        rw [← hw] at R4 O4 F4 T4 Z4 ⊢
        clear hw
        refine pt_e (i := 12) rfl (by rfl) (fun K hK => ?_)
        refine wp_store_row 58 (.tmp 3) (.tmp 16) rfl w3.heap.size _ rfl rfl 58 _ T4.out (by kernel_rfl) rfl (by simp [Value.oneCell']) ?_
        refine hK _ _ (fun h => absurd (by simp) h) ?_
        clear hK K
        refine pt_done ?_
        go_wp2_with fail
        go_meet
        exact ⟨w3.heap.size, rfl, T4.out.row, F4.out.only (only_row _ _ _) (by omega), ⟨R4.out.1.only (only_row _ _ _) (by omega), (R4.out.2.only (only_row _ _ _) (by omega))⟩, Only2.of1 br bc (by omega) (only_row _ _ _) O4.out, by omega⟩
      · go_simp
        have R3 := hide (R2.out.below ((Below.refl _ _).alloc (Nat.le_refl _) (.cells #[.int .i64 0, .int .i64 0, .int .i64 0, .int .i64 0, .bool false, .bool false, .int .i64 0, .int .i64 0, .int .i64 0, .int .i64 0, .int .i64 0, .int .i64 0, .string ⟨#[]⟩] 58)))
        have O3 := hide (O2.out.trans (Only2.of ((Below.refl _ _).alloc (Nat.le_refl _) (.cells #[.int .i64 0, .int .i64 0, .int .i64 0, .int .i64 0, .bool false, .bool false, .int .i64 0, .int .i64 0, .int .i64 0, .int .i64 0, .int .i64 0, .int .i64 0, .string ⟨#[]⟩] 58))))
        have F3 := hide (F2.out.alloc (.cells #[.int .i64 0, .int .i64 0, .int .i64 0, .int .i64 0, .bool false, .bool false, .int .i64 0, .int .i64 0, .int .i64 0, .int .i64 0, .int .i64 0, .int .i64 0, .string ⟨#[]⟩] 58))
        have T3 := hide (Blk.new w2 58 #[.int .i64 0, .int .i64 0, .int .i64 0, .int .i64 0, .bool false, .bool false, .int .i64 0, .int .i64 0, .int .i64 0, .int .i64 0, .int .i64 0, .int .i64 0, .string ⟨#[]⟩])
        have Z3 : w.heap.size < (w2.alloc (.cells #[.int .i64 0, .int .i64 0, .int .i64 0, .int .i64 0, .bool false, .bool false, .int .i64 0, .int .i64 0, .int .i64 0, .int .i64 0, .int .i64 0, .int .i64 0, .string ⟨#[]⟩] 58)).heap.size := by rw [World.size_alloc]; omega
        refine hK _ _ (fun _ => R3.out.ptr) ?_
        clear hK K
        obtain ⟨w3, hw⟩ : ∃ w3 : World, w3 = w2.alloc (.cells #[.int .i64 0, .int .i64 0, .int .i64 0, .int .i64 0, .bool false, .bool false, .int .i64 0, .int .i64 0, .int .i64 0, .int .i64 0, .int .i64 0, .int .i64 0, .string ⟨#[]⟩] 58) := ⟨_, rfl⟩
        rw [← hw] at R3 O3 F3 T3 Z3 ⊢
        clear hw
        refine pt_e (i := 9) rfl (by rfl) (fun K hK => ?_)
        go_simp
        refine (int_any bc (c.bytes 2) 2 (by simp) _ R3.out.2 ok1.out).mono ?_
        rintro e w4 ⟨rfl, hc, ho⟩
        have R4 := hide (R3.out.step hne.out hc ho)
        have O4 := hide (O3.out.trans (Only2.cur ho))
        have F4 := hide (F3.out.only ho nF.out)
        have Z4 := Nat.le_trans Z3 ho.size
        have T4 := hide (T3.out.only ho (by omega))
        clear hc ho
        refine hK _ _ (fun _ => R4.out.ptr) ?_
        clear hK K
        refine pt_v (i := 10) (N := (some 16)) (v := ?vb10) (a' := ?bb10) rfl rfl R4.out.ptr (by rfl) ?hyb10 ?hab10 ?_
        case hyb10 =>
          intro w' hS'
          go_simp
          with_reducible rfl
        case hab10 =>
          simp only [Act.put, List.setIfInBounds_toArray, List.set_cons_zero, List.set_cons_succ]
          rfl
        refine pt_e (i := 12) rfl (by rfl) (fun K hK => ?_)
        refine wp_store_row 58 (.tmp 3) (.tmp 16) rfl w2.heap.size _ rfl rfl 58 _ T4.out (by kernel_rfl) rfl (by simp [Value.oneCell']) ?_
        refine hK _ _ (fun h => absurd (by simp) h) ?_
        clear hK K
        refine pt_done ?_
        go_wp2_with fail
        go_meet
        exact ⟨w2.heap.size, rfl, T4.out.row, F4.out.only (only_row _ _ _) (by omega), ⟨R4.out.1.only (only_row _ _ _) (by omega), (R4.out.2.only (only_row _ _ _) (by omega))⟩, Only2.of1 br bc (by omega) (only_row _ _ _) O4.out, by omega⟩
    · go_simp
      have R2 := hide (R1.out.below ((Below.refl _ _).alloc (Nat.le_refl _) (.cells #[.int .i64 0, .int .i64 0, .int .i64 0, .int .i64 0, .bool false, .bool false, .int .i64 0, .int .i64 0, .int .i64 0, .int .i64 0, .int .i64 0, .int .i64 0, .string ⟨#[]⟩] 58)))
      have O2 := hide (O1.out.trans (Only2.of ((Below.refl _ _).alloc (Nat.le_refl _) (.cells #[.int .i64 0, .int .i64 0, .int .i64 0, .int .i64 0, .bool false, .bool false, .int .i64 0, .int .i64 0, .int .i64 0, .int .i64 0, .int .i64 0, .int .i64 0, .string ⟨#[]⟩] 58))))
      have F2 := hide (F1.out.alloc (.cells #[.int .i64 0, .int .i64 0, .int .i64 0, .int .i64 0, .bool false, .bool false, .int .i64 0, .int .i64 0, .int .i64 0, .int .i64 0, .int .i64 0, .int .i64 0, .string ⟨#[]⟩] 58))
      have T2 := hide (Blk.new w1 58 #[.int .i64 0, .int .i64 0, .int .i64 0, .int .i64 0, .bool false, .bool false, .int .i64 0, .int .i64 0, .int .i64 0, .int .i64 0, .int .i64 0, .int .i64 0, .string ⟨#[]⟩])
      have Z2 : w.heap.size < (w1.alloc (.cells #[.int .i64 0, .int .i64 0, .int .i64 0, .int .i64 0, .bool false, .bool false, .int .i64 0, .int .i64 0, .int .i64 0, .int .i64 0, .int .i64 0, .int .i64 0, .string ⟨#[]⟩] 58)).heap.size := by rw [World.size_alloc]; omega
      refine hK _ _ (fun _ => R2.out.ptr) ?_
      clear hK K
      obtain ⟨w2, hw⟩ : ∃ w2 : World, w2 = w1.alloc (.cells #[.int .i64 0, .int .i64 0, .int .i64 0, .int .i64 0, .bool false, .bool false, .int .i64 0, .int .i64 0, .int .i64 0, .int .i64 0, .int .i64 0, .int .i64 0, .string ⟨#[]⟩] 58) := ⟨_, rfl⟩
      rw [← hw] at R2 O2 F2 T2 Z2 ⊢
      clear hw
      refine pt_e (i := 4) rfl (by rfl) (fun K hK => ?_)
      go_simp
      refine (int_any bc c 2 (by simp) _ R2.out.2 ok0.out).mono ?_
      rintro e w3 ⟨rfl, hc, ho⟩
      have R3 := hide (R2.out.step hne.out hc ho)
      have O3 := hide (O2.out.trans (Only2.cur ho))
      have F3 := hide (F2.out.only ho nF.out)
      have Z3 := Nat.le_trans Z2 ho.size
      have T3 := hide (T2.out.only ho (by omega))
      clear hc ho
      refine hK _ _ (fun _ => R3.out.ptr) ?_
      clear hK K
      refine pt_e (i := 9) rfl (by rfl) (fun K hK => ?_)
      go_simp
      refine (int_any bc (c.bytes 2) 2 (by simp) _ R3.out.2 ok1.out).mono ?_
      rintro e w4 ⟨rfl, hc, ho⟩
      have R4 := hide (R3.out.step hne.out hc ho)
      have O4 := hide (O3.out.trans (Only2.cur ho))
      have F4 := hide (F3.out.only ho nF.out)
      have Z4 := Nat.le_trans Z3 ho.size
      have T4 := hide (T3.out.only ho (by omega))
      clear hc ho
      refine hK _ _ (fun _ => R4.out.ptr) ?_
      clear hK K
      refine pt_v (i := 10) (N := (some 16)) (v := ?vc10) (a' := ?bc10) rfl rfl R4.out.ptr (by rfl) ?hyc10 ?hac10 ?_
      case hyc10 =>
        intro w' hS'
        go_simp
        with_reducible rfl
      case hac10 =>
        simp only [Act.put, List.setIfInBounds_toArray, List.set_cons_zero, List.set_cons_succ]
        rfl
      refine pt_e (i := 12) rfl (by rfl) (fun K hK => ?_)
      refine wp_store_row 58 (.tmp 3) (.tmp 16) rfl w1.heap.size _ rfl rfl 58 _ T4.out (by kernel_rfl) rfl (by simp [Value.oneCell']) ?_
      refine hK _ _ (fun h => absurd (by simp) h) ?_
      clear hK K
      refine pt_done ?_
      go_wp2_with fail
      go_meet
      exact ⟨w1.heap.size, rfl, T4.out.row, F4.out.only (only_row _ _ _) (by omega), ⟨R4.out.1.only (only_row _ _ _) (by omega), (R4.out.2.only (only_row _ _ _) (by omega))⟩, Only2.of1 br bc (by omega) (only_row _ _ _) O4.out, by omega⟩
  case rest =>
    obtain ⟨bt, rfl, hT5, hF5, hR5, hO5, hlt⟩ := hcut
    obtain ⟨w5, hw5⟩ : ∃ w5 : World, w5 = wc := ⟨_, rfl⟩
    rw [← hw5] at hT5 hF5 hR5 hO5
    rw [← hw5]
    clear hw5
    rw [hx.out, hy.out] at hT5
    rw [hd.out] at hR5
    have T5 := hide hT5
    have F5 := hide hF5
    have R5 := hide hR5
    have O5 := hide hO5
    have Z5 : w.heap.size < w5.heap.size := F5.out.lt
    have nT : Hid (bt ≠ bc) := hide (by omega)
    have nTr : Hid (bt ≠ br) := hide (by omega)
    have nFr : Hid (w.heap.size ≠ br) := hide (by omega)
    clear hT5 hF5 hR5 hO5
    have okd := ok2
    have x0 := R5.out.ptr
    go_wp2_with fail
    refine (bytes_any bc d 16 _ R5.out.2 okd.out (by decide)).mono ?_
    rintro e w6 ⟨rfl, hc, ho⟩
    have R6 := hide (R5.out.step hne.out hc ho)
    have O6 := hide (O5.out.trans (Only2.cur ho))
    have F6 := hide (F5.out.only ho nF.out)
    have T6 := hide (T5.out.only ho nT.out)
    have Z6 := Nat.le_trans Z5 ho.size
    clear hc ho
    clear x0
    rw [hS.out]
    rw [h3.out] at R6
    go_wp2_with fail
    refine (KP.out _).mono ?_
    rintro e w7 ⟨rfl, hb⟩
    have R7 := hide (R6.out.below hb)
    have O7 := hide (O6.out.trans (Only2.of hb))
    have F7 := hide (F6.out.below hb)
    have T7 := hide (T6.out.below hb)
    have Z7 := Nat.le_trans Z6 hb.size
    clear hb
    have G7 := hide (Blk.new w7 23 (fmtC f))
    have R7b := hide (R7.out.below ((Below.refl _ _).alloc (Nat.le_refl _) (.cells (fmtC f) 23)))
    have O7b := hide (O7.out.trans (Only2.of ((Below.refl _ _).alloc (Nat.le_refl _) (.cells (fmtC f) 23))))
    have F7b := hide (F7.out.alloc (.cells (fmtC f) 23))
    have T7b := hide (T7.out.alloc (.cells (fmtC f) 23))
    have Z7b : w.heap.size < (w7.alloc (.cells (fmtC f) 23)).heap.size := Nat.lt_trans Z7 (by rw [World.size_alloc]; omega)
    have y0 : (w7.alloc (.cells (fmtC f) 23)).cell? ⟨bt, 0, none⟩ = some (.int .i64 x) := T7b.out.cell 0
    have y1 : (w7.alloc (.cells (fmtC f) 23)).cell? ⟨bt, 1, none⟩ = some (.int .i64 y) := T7b.out.cell 1
    go_wp2_with fail
    refine (fail111_any br bc d3 er 3 (y == 0) _ R7b.out hne.out).mono ?_
    rintro e w8 ⟨rfl, hr, ho⟩
    rw [hE1.out] at hr
    have R8 := hide hr
    have O8 := hide (O7b.out.trans ho)
    have F8 := hide (ho.blk F7b.out nFr.out nF.out)
    have T8 := hide (ho.blk T7b.out nTr.out nT.out)
    have nG : Hid (w7.heap.size ≠ br ∧ w7.heap.size ≠ bc) := hide ⟨by omega, by omega⟩
    have G8 := hide (ho.blk G7.out nG.out.1 nG.out.2)
    have Z8 := Nat.le_trans Z7b ho.2.2.2.1
    clear hr ho y0 y1
    go_wp2_with fail
    refine (fail111_any br bc d3 e1 pe (pe != 0) _ R8.out hne.out).mono ?_
    rintro e w9 ⟨rfl, hr, ho⟩
    rw [hE2.out] at hr
    have R9 := hide hr
    have O9 := hide (O8.out.trans ho)
    have F9 := hide (ho.blk F8.out nFr.out nF.out)
    have T9 := hide (ho.blk T8.out nTr.out nT.out)
    have G9 := hide (ho.blk G8.out nG.out.1 nG.out.2)
    have Z9 := Nat.le_trans Z8 ho.2.2.2.1
    clear hr ho
    have z1 := R9.out.err
    go_upto_region 7 with fail
    go_step
    refine wpList_load_row rfl 58 (.tmp 3) rfl bt rfl 58 _ _ _ T9.out Try.underlying58 rfl (by kernel_rfl) ?_
    refine wpList_store_row rfl 58 (.tmp 2) (.tmp 51) rfl w.heap.size (staC x y zeroF ⟨#[]⟩) rfl rfl 58 _ F9.out (by kernel_rfl) rfl (by simp [Value.oneCell']) ?_
    have FE := hide (Blk.row (C' := (staC x y zeroF ⟨#[]⟩)) F9.out)
    have on := hide (only_row w.heap.size w9 (staC x y zeroF ⟨#[]⟩))
    generalize w9.setRow w.heap.size (staC x y zeroF ⟨#[]⟩) = wz at *
    go_wp2_with fail
    refine bodyPost_ret (v := .agg (staC x y zeroF ⟨#[]⟩)) (results_cell_row rfl _ _ w.heap.size 58 _ (0, 0) _ rfl FE.out Try.underlying58 rfl (by kernel_rfl)) rfl ?_
    exact ⟨rfl, ⟨Blk.only R9.out.1 on.out nFr.out.symm, IsCur.only R9.out.2 on.out nF.out.symm⟩, Only2.of1 br bc (Nat.le_refl _) on.out O9.out⟩

end Go.Proofs.Ytodlpofpeoiedaa
