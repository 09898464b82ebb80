/-
  The start of bytes: servermsg.StartOf, where all is well.
-/
import Derived.Test.YtodlpofpeoiedaaDJ
namespace Go.Proofs.Ytodlpofpeoiedaa
open Go.RowKit Go.Sort

theorem fmt_set (bt : Nat) (x y : Int) (f : Fmt) (w : World) (h : Blk bt 58 #[.int .i64 x, .int .i64 y, .int .i64 0, .int .i64 0, .bool false, .bool false, .int .i64 0, .int .i64 0, .int .i64 0, .int .i64 0, .int .i64 0, .int .i64 0, .string ⟨#[]⟩] w) : Blk bt 58 #[.int .i64 x, .int .i64 y, .int .i64 f.bits, .int .i64 f.depth, .bool f.big, .bool f.tru, .int .i64 f.rm, .int .i64 f.gm, .int .i64 f.bm, .int .i64 f.rs, .int .i64 f.gs, .int .i64 f.bs, .string ⟨#[]⟩] ((((((((((w.setCell ⟨bt, 2, none⟩ (.int .i64 f.bits)).setCell ⟨bt, 3, none⟩ (.int .i64 f.depth)).setCell ⟨bt, 4, none⟩ (.bool f.big)).setCell ⟨bt, 5, none⟩ (.bool f.tru)).setCell ⟨bt, 6, none⟩ (.int .i64 f.rm)).setCell ⟨bt, 7, none⟩ (.int .i64 f.gm)).setCell ⟨bt, 8, none⟩ (.int .i64 f.bm)).setCell ⟨bt, 9, none⟩ (.int .i64 f.rs)).setCell ⟨bt, 10, none⟩ (.int .i64 f.gs)).setCell ⟨bt, 11, none⟩ (.int .i64 f.bs)) := by
  have h2 : Blk bt 58 #[.int .i64 x, .int .i64 y, .int .i64 f.bits, .int .i64 0, .bool false, .bool false, .int .i64 0, .int .i64 0, .int .i64 0, .int .i64 0, .int .i64 0, .int .i64 0, .string ⟨#[]⟩] (w.setCell ⟨bt, 2, none⟩ (.int .i64 f.bits)) := Blk.set h 2 (.int .i64 f.bits)
  have h3 : Blk bt 58 #[.int .i64 x, .int .i64 y, .int .i64 f.bits, .int .i64 f.depth, .bool false, .bool false, .int .i64 0, .int .i64 0, .int .i64 0, .int .i64 0, .int .i64 0, .int .i64 0, .string ⟨#[]⟩] ((w.setCell ⟨bt, 2, none⟩ (.int .i64 f.bits)).setCell ⟨bt, 3, none⟩ (.int .i64 f.depth)) := Blk.set h2 3 (.int .i64 f.depth)
  have h4 : Blk bt 58 #[.int .i64 x, .int .i64 y, .int .i64 f.bits, .int .i64 f.depth, .bool f.big, .bool false, .int .i64 0, .int .i64 0, .int .i64 0, .int .i64 0, .int .i64 0, .int .i64 0, .string ⟨#[]⟩] (((w.setCell ⟨bt, 2, none⟩ (.int .i64 f.bits)).setCell ⟨bt, 3, none⟩ (.int .i64 f.depth)).setCell ⟨bt, 4, none⟩ (.bool f.big)) := Blk.set h3 4 (.bool f.big)
  have h5 : Blk bt 58 #[.int .i64 x, .int .i64 y, .int .i64 f.bits, .int .i64 f.depth, .bool f.big, .bool f.tru, .int .i64 0, .int .i64 0, .int .i64 0, .int .i64 0, .int .i64 0, .int .i64 0, .string ⟨#[]⟩] ((((w.setCell ⟨bt, 2, none⟩ (.int .i64 f.bits)).setCell ⟨bt, 3, none⟩ (.int .i64 f.depth)).setCell ⟨bt, 4, none⟩ (.bool f.big)).setCell ⟨bt, 5, none⟩ (.bool f.tru)) := Blk.set h4 5 (.bool f.tru)
  have h6 : Blk bt 58 #[.int .i64 x, .int .i64 y, .int .i64 f.bits, .int .i64 f.depth, .bool f.big, .bool f.tru, .int .i64 f.rm, .int .i64 0, .int .i64 0, .int .i64 0, .int .i64 0, .int .i64 0, .string ⟨#[]⟩] (((((w.setCell ⟨bt, 2, none⟩ (.int .i64 f.bits)).setCell ⟨bt, 3, none⟩ (.int .i64 f.depth)).setCell ⟨bt, 4, none⟩ (.bool f.big)).setCell ⟨bt, 5, none⟩ (.bool f.tru)).setCell ⟨bt, 6, none⟩ (.int .i64 f.rm)) := Blk.set h5 6 (.int .i64 f.rm)
  have h7 : Blk bt 58 #[.int .i64 x, .int .i64 y, .int .i64 f.bits, .int .i64 f.depth, .bool f.big, .bool f.tru, .int .i64 f.rm, .int .i64 f.gm, .int .i64 0, .int .i64 0, .int .i64 0, .int .i64 0, .string ⟨#[]⟩] ((((((w.setCell ⟨bt, 2, none⟩ (.int .i64 f.bits)).setCell ⟨bt, 3, none⟩ (.int .i64 f.depth)).setCell ⟨bt, 4, none⟩ (.bool f.big)).setCell ⟨bt, 5, none⟩ (.bool f.tru)).setCell ⟨bt, 6, none⟩ (.int .i64 f.rm)).setCell ⟨bt, 7, none⟩ (.int .i64 f.gm)) := Blk.set h6 7 (.int .i64 f.gm)
  have h8 : Blk bt 58 #[.int .i64 x, .int .i64 y, .int .i64 f.bits, .int .i64 f.depth, .bool f.big, .bool f.tru, .int .i64 f.rm, .int .i64 f.gm, .int .i64 f.bm, .int .i64 0, .int .i64 0, .int .i64 0, .string ⟨#[]⟩] (((((((w.setCell ⟨bt, 2, none⟩ (.int .i64 f.bits)).setCell ⟨bt, 3, none⟩ (.int .i64 f.depth)).setCell ⟨bt, 4, none⟩ (.bool f.big)).setCell ⟨bt, 5, none⟩ (.bool f.tru)).setCell ⟨bt, 6, none⟩ (.int .i64 f.rm)).setCell ⟨bt, 7, none⟩ (.int .i64 f.gm)).setCell ⟨bt, 8, none⟩ (.int .i64 f.bm)) := Blk.set h7 8 (.int .i64 f.bm)
  have h9 : Blk bt 58 #[.int .i64 x, .int .i64 y, .int .i64 f.bits, .int .i64 f.depth, .bool f.big, .bool f.tru, .int .i64 f.rm, .int .i64 f.gm, .int .i64 f.bm, .int .i64 f.rs, .int .i64 0, .int .i64 0, .string ⟨#[]⟩] ((((((((w.setCell ⟨bt, 2, none⟩ (.int .i64 f.bits)).setCell ⟨bt, 3, none⟩ (.int .i64 f.depth)).setCell ⟨bt, 4, none⟩ (.bool f.big)).setCell ⟨bt, 5, none⟩ (.bool f.tru)).setCell ⟨bt, 6, none⟩ (.int .i64 f.rm)).setCell ⟨bt, 7, none⟩ (.int .i64 f.gm)).setCell ⟨bt, 8, none⟩ (.int .i64 f.bm)).setCell ⟨bt, 9, none⟩ (.int .i64 f.rs)) := Blk.set h8 9 (.int .i64 f.rs)
  have h10 : Blk bt 58 #[.int .i64 x, .int .i64 y, .int .i64 f.bits, .int .i64 f.depth, .bool f.big, .bool f.tru, .int .i64 f.rm, .int .i64 f.gm, .int .i64 f.bm, .int .i64 f.rs, .int .i64 f.gs, .int .i64 0, .string ⟨#[]⟩] (((((((((w.setCell ⟨bt, 2, none⟩ (.int .i64 f.bits)).setCell ⟨bt, 3, none⟩ (.int .i64 f.depth)).setCell ⟨bt, 4, none⟩ (.bool f.big)).setCell ⟨bt, 5, none⟩ (.bool f.tru)).setCell ⟨bt, 6, none⟩ (.int .i64 f.rm)).setCell ⟨bt, 7, none⟩ (.int .i64 f.gm)).setCell ⟨bt, 8, none⟩ (.int .i64 f.bm)).setCell ⟨bt, 9, none⟩ (.int .i64 f.rs)).setCell ⟨bt, 10, none⟩ (.int .i64 f.gs)) := Blk.set h9 10 (.int .i64 f.gs)
  have h11 : Blk bt 58 #[.int .i64 x, .int .i64 y, .int .i64 f.bits, .int .i64 f.depth, .bool f.big, .bool f.tru, .int .i64 f.rm, .int .i64 f.gm, .int .i64 f.bm, .int .i64 f.rs, .int .i64 f.gs, .int .i64 f.bs, .string ⟨#[]⟩] ((((((((((w.setCell ⟨bt, 2, none⟩ (.int .i64 f.bits)).setCell ⟨bt, 3, none⟩ (.int .i64 f.depth)).setCell ⟨bt, 4, none⟩ (.bool f.big)).setCell ⟨bt, 5, none⟩ (.bool f.tru)).setCell ⟨bt, 6, none⟩ (.int .i64 f.rm)).setCell ⟨bt, 7, none⟩ (.int .i64 f.gm)).setCell ⟨bt, 8, none⟩ (.int .i64 f.bm)).setCell ⟨bt, 9, none⟩ (.int .i64 f.rs)).setCell ⟨bt, 10, none⟩ (.int .i64 f.gs)).setCell ⟨bt, 11, none⟩ (.int .i64 f.bs)) := Blk.set h10 11 (.int .i64 f.bs)
  exact h11

theorem fmt_only (bt : Nat) (f : Fmt) (w : World) : Only bt w ((((((((((w.setCell ⟨bt, 2, none⟩ (.int .i64 f.bits)).setCell ⟨bt, 3, none⟩ (.int .i64 f.depth)).setCell ⟨bt, 4, none⟩ (.bool f.big)).setCell ⟨bt, 5, none⟩ (.bool f.tru)).setCell ⟨bt, 6, none⟩ (.int .i64 f.rm)).setCell ⟨bt, 7, none⟩ (.int .i64 f.gm)).setCell ⟨bt, 8, none⟩ (.int .i64 f.bm)).setCell ⟨bt, 9, none⟩ (.int .i64 f.rs)).setCell ⟨bt, 10, none⟩ (.int .i64 f.gs)).setCell ⟨bt, 11, none⟩ (.int .i64 f.bs)) := only_trans (only_trans (only_trans (only_trans (only_trans (only_trans (only_trans (only_trans (only_trans (only_set bt 2 _ _) (only_set bt 3 _ _)) (only_set bt 4 _ _)) (only_set bt 5 _ _)) (only_set bt 6 _ _)) (only_set bt 7 _ _)) (only_set bt 8 _ _)) (only_set bt 9 _ _)) (only_set bt 10 _ _)) (only_set bt 11 _ _)

set_option maxHeartbeats 6400000 in
set_option maxRecDepth 100000 in
theorem startOf_yes0 (br bc : Nat) (c : Cu) (er : Int) (w : World) (h : IsRd br bc c er w) (hne : Hid (br ≠ bc)) (ok0 : Hid c.ok) (x y : Int) (d d3 : Cu) (S : ByteArray) (f : Fmt) (pe e1 e2 : Int) (hx : Hid (c.int 2 = x)) (hy : Hid ((c.bytes 2).int 2 = y)) (hd : Hid ((c.bytes 2).bytes 2 = d)) (hS : Hid (d.out 16 = S)) (h3 : Hid (d.bytes 16 = d3))
    (hx0 : (x == 0) = true) (hE1 : Hid (rdF d3 er true 3 = e1)) (hE2 : Hid (rdF d3 e1 (pe != 0) pe = e2)) (hz : (e2 == 0) = true)
    (KP : Hid (∀ w, Calls Try.prog 15 #[.string S] w fun e w' => e = .returned (.tuple #[fmtV f, .int .i64 pe]) ∧ Below w.heap.size w w')) :
    Calls Try.prog 119 #[.pointer (some ⟨br, 0, none⟩)] w fun e w' => e = .returned (.agg (staC x y f (rdT d3 e2))) ∧ IsRd br bc (rdC d3 e2) (rdE d3 e2) w' ∧ Only2 br bc w w' := by
  have ok1 := hide (cu_ok c 2 ok0.out)
  have ok2 : Hid d.ok := hide (by rw [← hd.out]; exact cu_ok _ 2 ok1.out)
  have ok3 : Hid d3.ok := hide (by rw [← h3.out]; exact cu_ok _ 16 ok2.out)
  have hbr : br < w.heap.size := h.1.lt
  have hbc : bc < w.heap.size := h.2.lt
  have nF : Hid (w.heap.size ≠ bc) := hide (by omega)
  have F0 := hide (Blk.new w 58 #[.int .i64 0, .int .i64 0, .int .i64 0, .int .i64 0, .bool false, .bool false, .int .i64 0, .int .i64 0, .int .i64 0, .int .i64 0, .int .i64 0, .int .i64 0, .string ⟨#[]⟩])
  have R0 := hide (h.below ((Below.refl _ _).alloc (Nat.le_refl _) (.cells #[.int .i64 0, .int .i64 0, .int .i64 0, .int .i64 0, .bool false, .bool false, .int .i64 0, .int .i64 0, .int .i64 0, .int .i64 0, .int .i64 0, .int .i64 0, .string ⟨#[]⟩] 58)))
  have O0 := hide (Only2.of (br := br) (bc := bc) ((Below.refl w.heap.size w).alloc (Nat.le_refl _) (.cells #[.int .i64 0, .int .i64 0, .int .i64 0, .int .i64 0, .bool false, .bool false, .int .i64 0, .int .i64 0, .int .i64 0, .int .i64 0, .int .i64 0, .int .i64 0, .string ⟨#[]⟩] 58)))
  have Z0 : w.heap.size < (w.alloc (.cells #[.int .i64 0, .int .i64 0, .int .i64 0, .int .i64 0, .bool false, .bool false, .int .i64 0, .int .i64 0, .int .i64 0, .int .i64 0, .int .i64 0, .int .i64 0, .string ⟨#[]⟩] 58)).heap.size := by rw [World.size_alloc]; omega
  clear h
  go_enter Try.func119, Try.ntmps119
  go_upto_region 1 with fail
  generalize w.alloc (.cells #[.int .i64 0, .int .i64 0, .int .i64 0, .int .i64 0, .bool false, .bool false, .int .i64 0, .int .i64 0, .int .i64 0, .int .i64 0, .int .i64 0, .int .i64 0, .string ⟨#[]⟩] 58) = w0 at *
  go_cut [3] (fun s3 wx => StRel br bc ((c.bytes 2).bytes 2) er (c.int 2) ((c.bytes 2).int 2) w s3 wx)
  case first =>
    have F1 := hide (show Blk w.heap.size 58 #[.int .i64 0, .int .i64 0, .int .i64 0, .int .i64 0, .bool false, .bool false, .int .i64 0, .int .i64 0, .int .i64 0, .int .i64 0, .int .i64 0, .int .i64 0, .string ⟨#[]⟩] w0.drew from F0.out)
    have R1 := hide (show IsRd br bc c er w0.drew from R0.out)
    have O1 := hide (show Only2 br bc w w0.drew from O0.out)
    have Z1 : w.heap.size < w0.drew.heap.size := Z0
    clear F0 R0 O0 Z0
    refine pt_region (.q 0 (.q 1 (.q 2 (.q 3 (.q 5 (.q 6 (.q 7 (.q 8 (.two 4 11 (.two 9 11 (.q 10 (.e 11 (.e 12 .nil))) (.e 9 (.q 10 (.e 12 .nil)))) (.e 4 (.e 9 (.q 10 (.e 12 .nil))))))))))))) (fun w' => w'.cell? ⟨br, 0, none⟩ = some (.pointer (some ⟨bc, 0, none⟩))) [12] rfl (by kernel_rfl) (fun _ _ d _ _ h => by cases d <;> exact h) ?_
    generalize w0.drew = w1 at *
    refine pt_v (i := 0) (N := (some 6)) (v := ?vr0) (a' := ?br0) rfl rfl R1.out.ptr (by rfl) ?hyr0 ?har0 ?_
    case hyr0 =>
      intro w' hS'
      go_simp
      with_reducible rfl
    case har0 =>
      simp only [Act.put, List.setIfInBounds_toArray, List.set_cons_zero, List.set_cons_succ]
      rfl
    refine pt_v (i := 1) (N := (some 7)) (v := ?vr1) (a' := ?br1) rfl rfl R1.out.ptr (by rfl) ?hyr1 ?har1 ?_
    case hyr1 =>
      intro w' hS'
      go_simp
      with_reducible rfl
    case har1 =>
      simp only [Act.put, List.setIfInBounds_toArray, List.set_cons_zero, List.set_cons_succ]
      rfl
    refine pt_v (i := 2) (N := (some 8)) (v := ?vr2) (a' := ?br2) rfl rfl R1.out.ptr (by rfl) ?hyr2 ?har2 ?_
    case hyr2 =>
      intro w' hS'
      go_simp
      with_reducible rfl
    case har2 =>
      simp only [Act.put, List.setIfInBounds_toArray, List.set_cons_zero, List.set_cons_succ]
      rfl
    refine pt_v (i := 3) (N := (some 9)) (v := ?vr3) (a' := ?br3) rfl rfl R1.out.ptr (by rfl) ?hyr3 ?har3 ?_
    case hyr3 =>
      intro w' hS'
      have x0 := hS'
      go_simp
      with_reducible rfl
    case har3 =>
      simp only [Act.put, List.setIfInBounds_toArray, List.set_cons_zero, List.set_cons_succ]
      rfl
    refine pt_v (i := 5) (N := (some 11)) (v := ?vr5) (a' := ?br5) rfl rfl R1.out.ptr (by rfl) ?hyr5 ?har5 ?_
    case hyr5 =>
      intro w' hS'
      go_simp
      with_reducible rfl
    case har5 =>
      simp only [Act.put, List.setIfInBounds_toArray, List.set_cons_zero, List.set_cons_succ]
      rfl
    refine pt_v (i := 6) (N := (some 12)) (v := ?vr6) (a' := ?br6) rfl rfl R1.out.ptr (by rfl) ?hyr6 ?har6 ?_
    case hyr6 =>
      intro w' hS'
      go_simp
      with_reducible rfl
    case har6 =>
      simp only [Act.put, List.setIfInBounds_toArray, List.set_cons_zero, List.set_cons_succ]
      rfl
    refine pt_v (i := 7) (N := (some 13)) (v := ?vr7) (a' := ?br7) rfl rfl R1.out.ptr (by rfl) ?hyr7 ?har7 ?_
    case hyr7 =>
      intro w' hS'
      go_simp
      with_reducible rfl
    case har7 =>
      simp only [Act.put, List.setIfInBounds_toArray, List.set_cons_zero, List.set_cons_succ]
      rfl
    refine pt_v (i := 8) (N := (some 14)) (v := ?vr8) (a' := ?br8) rfl rfl R1.out.ptr (by rfl) ?hyr8 ?har8 ?_
    case hyr8 =>
      intro w' hS'
      have x0 := hS'
      go_simp
      with_reducible rfl
    case har8 =>
      simp only [Act.put, List.setIfInBounds_toArray, List.set_cons_zero, List.set_cons_succ]
      rfl
    refine pt_two (i := 4) (j := 11) rfl rfl (by rfl) (by rfl) (fun K hK => ?_) (fun K hK => ?_)
    · go_simp
      refine (int_any bc c 2 (by simp) _ R1.out.2 ok0.out).mono ?_
      rintro e w2 ⟨rfl, hc, ho⟩
      have R2 := hide (R1.out.step hne.out hc ho)
      have O2 := hide (O1.out.trans (Only2.cur ho))
      have F2 := hide (F1.out.only ho nF.out)
      have Z2 := Nat.le_trans Z1 ho.size
      clear hc ho
      refine hK _ _ (fun _ => R2.out.ptr) ?_
      clear hK K
      refine pt_two (i := 9) (j := 11) rfl rfl (by rfl) (by rfl) (fun K hK => ?_) (fun K hK => ?_)
      · go_simp
        refine (int_any bc (c.bytes 2) 2 (by simp) _ R2.out.2 ok1.out).mono ?_
        rintro e w3 ⟨rfl, hc, ho⟩
        have R3 := hide (R2.out.step hne.out hc ho)
        have O3 := hide (O2.out.trans (Only2.cur ho))
        have F3 := hide (F2.out.only ho nF.out)
        have Z3 := Nat.le_trans Z2 ho.size
        clear hc ho
        refine hK _ _ (fun _ => R3.out.ptr) ?_
        clear hK K
        refine pt_v (i := 10) (N := (some 16)) (v := ?va10) (a' := ?ba10) rfl rfl R3.out.ptr (by rfl) ?hya10 ?haa10 ?_
        case hya10 =>
          intro w' hS'
          go_simp
          with_reducible rfl
        case haa10 =>
          simp only [Act.put, List.setIfInBounds_toArray, List.set_cons_zero, List.set_cons_succ]
          rfl
        refine pt_e (i := 11) rfl (by rfl) (fun K hK => ?_)
        go_simp
        have R4 := hide (R3.out.below ((Below.refl _ _).alloc (Nat.le_refl _) (.cells #[.int .i64 0, .int .i64 0, .int .i64 0, .int .i64 0, .bool false, .bool false, .int .i64 0, .int .i64 0, .int .i64 0, .int .i64 0, .int .i64 0, .int .i64 0, .string ⟨#[]⟩] 58)))
        have O4 := hide (O3.out.trans (Only2.of ((Below.refl _ _).alloc (Nat.le_refl _) (.cells #[.int .i64 0, .int .i64 0, .int .i64 0, .int .i64 0, .bool false, .bool false, .int .i64 0, .int .i64 0, .int .i64 0, .int .i64 0, .int .i64 0, .int .i64 0, .string ⟨#[]⟩] 58))))
        have F4 := hide (F3.out.alloc (.cells #[.int .i64 0, .int .i64 0, .int .i64 0, .int .i64 0, .bool false, .bool false, .int .i64 0, .int .i64 0, .int .i64 0, .int .i64 0, .int .i64 0, .int .i64 0, .string ⟨#[]⟩] 58))
        have T4 := hide (Blk.new w3 58 #[.int .i64 0, .int .i64 0, .int .i64 0, .int .i64 0, .bool false, .bool false, .int .i64 0, .int .i64 0, .int .i64 0, .int .i64 0, .int .i64 0, .int .i64 0, .string ⟨#[]⟩])
        have Z4 : w.heap.size < (w3.alloc (.cells #[.int .i64 0, .int .i64 0, .int .i64 0, .int .i64 0, .bool false, .bool false, .int .i64 0, .int .i64 0, .int .i64 0, .int .i64 0, .int .i64 0, .int .i64 0, .string ⟨#[]⟩] 58)).heap.size := by rw [World.size_alloc]; omega
        refine hK _ _ (fun _ => R4.out.ptr) ?_
        clear hK K
        obtain ⟨w4, hw⟩ : ∃ w4 : World, w4 = w3.alloc (.cells #[.int .i64 0, .int .i64 0, .int .i64 0, .int .i64 0, .bool false, .bool false, .int .i64 0, .int .i64 0, .int .i64 0, .int .i64 0, .int .i64 0, .int .i64 0, .string ⟨#[]⟩] 58) := ⟨_, rfl⟩
        rw [← hw] at R4 O4 F4 T4 Z4 ⊢
        clear hw
        refine pt_e (i := 12) rfl (by rfl) (fun K hK => ?_)
        refine wp_store_row 58 (.tmp 3) (.tmp 16) rfl w3.heap.size _ rfl rfl 58 _ T4.out (by kernel_rfl) rfl (by simp [Value.oneCell']) ?_
        refine hK _ _ (fun h => absurd (by simp) h) ?_
        clear hK K
        refine pt_done ?_
        go_wp2_with fail
        go_meet
        exact ⟨w3.heap.size, rfl, T4.out.row, F4.out.only (only_row _ _ _) (by omega), ⟨R4.out.1.only (only_row _ _ _) (by omega), (R4.out.2.only (only_row _ _ _) (by omega))⟩, Only2.of1 br bc (by omega) (only_row _ _ _) O4.out, by omega⟩
      · go_simp
        have R3 := hide (R2.out.below ((Below.refl _ _).alloc (Nat.le_refl _) (.cells #[.int .i64 0, .int .i64 0, .int .i64 0, .int .i64 0, .bool false, .bool false, .int .i64 0, .int .i64 0, .int .i64 0, .int .i64 0, .int .i64 0, .int .i64 0, .string ⟨#[]⟩] 58)))
        have O3 := hide (O2.out.trans (Only2.of ((Below.refl _ _).alloc (Nat.le_refl _) (.cells #[.int .i64 0, .int .i64 0, .int .i64 0, .int .i64 0, .bool false, .bool false, .int .i64 0, .int .i64 0, .int .i64 0, .int .i64 0, .int .i64 0, .int .i64 0, .string ⟨#[]⟩] 58))))
        have F3 := hide (F2.out.alloc (.cells #[.int .i64 0, .int .i64 0, .int .i64 0, .int .i64 0, .bool false, .bool false, .int .i64 0, .int .i64 0, .int .i64 0, .int .i64 0, .int .i64 0, .int .i64 0, .string ⟨#[]⟩] 58))
        have T3 := hide (Blk.new w2 58 #[.int .i64 0, .int .i64 0, .int .i64 0, .int .i64 0, .bool false, .bool false, .int .i64 0, .int .i64 0, .int .i64 0, .int .i64 0, .int .i64 0, .int .i64 0, .string ⟨#[]⟩])
        have Z3 : w.heap.size < (w2.alloc (.cells #[.int .i64 0, .int .i64 0, .int .i64 0, .int .i64 0, .bool false, .bool false, .int .i64 0, .int .i64 0, .int .i64 0, .int .i64 0, .int .i64 0, .int .i64 0, .string ⟨#[]⟩] 58)).heap.size := by rw [World.size_alloc]; omega
        refine hK _ _ (fun _ => R3.out.ptr) ?_
        clear hK K
        obtain ⟨w3, hw⟩ : ∃ w3 : World, w3 = w2.alloc (.cells #[.int .i64 0, .int .i64 0, .int .i64 0, .int .i64 0, .bool false, .bool false, .int .i64 0, .int .i64 0, .int .i64 0, .int .i64 0, .int .i64 0, .int .i64 0, .string ⟨#[]⟩] 58) := ⟨_, rfl⟩
        rw [← hw] at R3 O3 F3 T3 Z3 ⊢
        clear hw
        refine pt_e (i := 9) rfl (by rfl) (fun K hK => ?_)
        go_simp
        refine (int_any bc (c.bytes 2) 2 (by simp) _ R3.out.2 ok1.out).mono ?_
        rintro e w4 ⟨rfl, hc, ho⟩
        have R4 := hide (R3.out.step hne.out hc ho)
        have O4 := hide (O3.out.trans (Only2.cur ho))
        have F4 := hide (F3.out.only ho nF.out)
        have Z4 := Nat.le_trans Z3 ho.size
        have T4 := hide (T3.out.only ho (by omega))
        clear hc ho
        refine hK _ _ (fun _ => R4.out.ptr) ?_
        clear hK K
        refine pt_v (i := 10) (N := (some 16)) (v := ?vb10) (a' := ?bb10) rfl rfl R4.out.ptr (by rfl) ?hyb10 ?hab10 ?_
        case hyb10 =>
          intro w' hS'
          go_simp
          with_reducible rfl
        case hab10 =>
          simp only [Act.put, List.setIfInBounds_toArray, List.set_cons_zero, List.set_cons_succ]
          rfl
        refine pt_e (i := 12) rfl (by rfl) (fun K hK => ?_)
        refine wp_store_row 58 (.tmp 3) (.tmp 16) rfl w2.heap.size _ rfl rfl 58 _ T4.out (by kernel_rfl) rfl (by simp [Value.oneCell']) ?_
        refine hK _ _ (fun h => absurd (by simp) h) ?_
        clear hK K
        refine pt_done ?_
        go_wp2_with fail
        go_meet
        exact ⟨w2.heap.size, rfl, T4.out.row, F4.out.only (only_row _ _ _) (by omega), ⟨R4.out.1.only (only_row _ _ _) (by omega), (R4.out.2.only (only_row _ _ _) (by omega))⟩, Only2.of1 br bc (by omega) (only_row _ _ _) O4.out, by omega⟩
    · go_simp
      have R2 := hide (R1.out.below ((Below.refl _ _).alloc (Nat.le_refl _) (.cells #[.int .i64 0, .int .i64 0, .int .i64 0, .int .i64 0, .bool false, .bool false, .int .i64 0, .int .i64 0, .int .i64 0, .int .i64 0, .int .i64 0, .int .i64 0, .string ⟨#[]⟩] 58)))
      have O2 := hide (O1.out.trans (Only2.of ((Below.refl _ _).alloc (Nat.le_refl _) (.cells #[.int .i64 0, .int .i64 0, .int .i64 0, .int .i64 0, .bool false, .bool false, .int .i64 0, .int .i64 0, .int .i64 0, .int .i64 0, .int .i64 0, .int .i64 0, .string ⟨#[]⟩] 58))))
      have F2 := hide (F1.out.alloc (.cells #[.int .i64 0, .int .i64 0, .int .i64 0, .int .i64 0, .bool false, .bool false, .int .i64 0, .int .i64 0, .int .i64 0, .int .i64 0, .int .i64 0, .int .i64 0, .string ⟨#[]⟩] 58))
      have T2 := hide (Blk.new w1 58 #[.int .i64 0, .int .i64 0, .int .i64 0, .int .i64 0, .bool false, .bool false, .int .i64 0, .int .i64 0, .int .i64 0, .int .i64 0, .int .i64 0, .int .i64 0, .string ⟨#[]⟩])
      have Z2 : w.heap.size < (w1.alloc (.cells #[.int .i64 0, .int .i64 0, .int .i64 0, .int .i64 0, .bool false, .bool false, .int .i64 0, .int .i64 0, .int .i64 0, .int .i64 0, .int .i64 0, .int .i64 0, .string ⟨#[]⟩] 58)).heap.size := by rw [World.size_alloc]; omega
      refine hK _ _ (fun _ => R2.out.ptr) ?_
      clear hK K
      obtain ⟨w2, hw⟩ : ∃ w2 : World, w2 = w1.alloc (.cells #[.int .i64 0, .int .i64 0, .int .i64 0, .int .i64 0, .bool false, .bool false, .int .i64 0, .int .i64 0, .int .i64 0, .int .i64 0, .int .i64 0, .int .i64 0, .string ⟨#[]⟩] 58) := ⟨_, rfl⟩
      rw [← hw] at R2 O2 F2 T2 Z2 ⊢
      clear hw
      refine pt_e (i := 4) rfl (by rfl) (fun K hK => ?_)
      go_simp
      refine (int_any bc c 2 (by simp) _ R2.out.2 ok0.out).mono ?_
      rintro e w3 ⟨rfl, hc, ho⟩
      have R3 := hide (R2.out.step hne.out hc ho)
      have O3 := hide (O2.out.trans (Only2.cur ho))
      have F3 := hide (F2.out.only ho nF.out)
      have Z3 := Nat.le_trans Z2 ho.size
      have T3 := hide (T2.out.only ho (by omega))
      clear hc ho
      refine hK _ _ (fun _ => R3.out.ptr) ?_
      clear hK K
      refine pt_e (i := 9) rfl (by rfl) (fun K hK => ?_)
      go_simp
      refine (int_any bc (c.bytes 2) 2 (by simp) _ R3.out.2 ok1.out).mono ?_
      rintro e w4 ⟨rfl, hc, ho⟩
      have R4 := hide (R3.out.step hne.out hc ho)
      have O4 := hide (O3.out.trans (Only2.cur ho))
      have F4 := hide (F3.out.only ho nF.out)
      have Z4 := Nat.le_trans Z3 ho.size
      have T4 := hide (T3.out.only ho (by omega))
      clear hc ho
      refine hK _ _ (fun _ => R4.out.ptr) ?_
      clear hK K
      refine pt_v (i := 10) (N := (some 16)) (v := ?vc10) (a' := ?bc10) rfl rfl R4.out.ptr (by rfl) ?hyc10 ?hac10 ?_
      case hyc10 =>
        intro w' hS'
        go_simp
        with_reducible rfl
      case hac10 =>
        simp only [Act.put, List.setIfInBounds_toArray, List.set_cons_zero, List.set_cons_succ]
        rfl
      refine pt_e (i := 12) rfl (by rfl) (fun K hK => ?_)
      refine wp_store_row 58 (.tmp 3) (.tmp 16) rfl w1.heap.size _ rfl rfl 58 _ T4.out (by kernel_rfl) rfl (by simp [Value.oneCell']) ?_
      refine hK _ _ (fun h => absurd (by simp) h) ?_
      clear hK K
      refine pt_done ?_
      go_wp2_with fail
      go_meet
      exact ⟨w1.heap.size, rfl, T4.out.row, F4.out.only (only_row _ _ _) (by omega), ⟨R4.out.1.only (only_row _ _ _) (by omega), (R4.out.2.only (only_row _ _ _) (by omega))⟩, Only2.of1 br bc (by omega) (only_row _ _ _) O4.out, by omega⟩
  case rest =>
    obtain ⟨bt, rfl, hT5, hF5, hR5, hO5, hlt⟩ := hcut
    obtain ⟨w5, hw5⟩ : ∃ w5 : World, w5 = wc := ⟨_, rfl⟩
    rw [← hw5] at hT5 hF5 hR5 hO5
    rw [← hw5]
    clear hw5
    rw [hx.out, hy.out] at hT5
    rw [hd.out] at hR5
    have T5 := hide hT5
    have F5 := hide hF5
    have R5 := hide hR5
    have O5 := hide hO5
    have Z5 : w.heap.size < w5.heap.size := F5.out.lt
    have nT : Hid (bt ≠ bc) := hide (by omega)
    have nTr : Hid (bt ≠ br) := hide (by omega)
    have nFr : Hid (w.heap.size ≠ br) := hide (by omega)
    clear hT5 hF5 hR5 hO5
    have okd := ok2
    have x0 := R5.out.ptr
    go_wp2_with fail
    refine (bytes_any bc d 16 _ R5.out.2 okd.out (by decide)).mono ?_
    rintro e w6 ⟨rfl, hc, ho⟩
    have R6 := hide (R5.out.step hne.out hc ho)
    have O6 := hide (O5.out.trans (Only2.cur ho))
    have F6 := hide (F5.out.only ho nF.out)
    have T6 := hide (T5.out.only ho nT.out)
    have Z6 := Nat.le_trans Z5 ho.size
    clear hc ho
    clear x0
    rw [hS.out]
    rw [h3.out] at R6
    go_wp2_with fail
    refine (KP.out _).mono ?_
    rintro e w7 ⟨rfl, hb⟩
    have R7 := hide (R6.out.below hb)
    have O7 := hide (O6.out.trans (Only2.of hb))
    have F7 := hide (F6.out.below hb)
    have T7 := hide (T6.out.below hb)
    have Z7 := Nat.le_trans Z6 hb.size
    clear hb
    have G7 := hide (Blk.new w7 23 (fmtC f))
    have R7b := hide (R7.out.below ((Below.refl _ _).alloc (Nat.le_refl _) (.cells (fmtC f) 23)))
    have O7b := hide (O7.out.trans (Only2.of ((Below.refl _ _).alloc (Nat.le_refl _) (.cells (fmtC f) 23))))
    have F7b := hide (F7.out.alloc (.cells (fmtC f) 23))
    have T7b := hide (T7.out.alloc (.cells (fmtC f) 23))
    have Z7b : w.heap.size < (w7.alloc (.cells (fmtC f) 23)).heap.size := Nat.lt_trans Z7 (by rw [World.size_alloc]; omega)
    have y0 : (w7.alloc (.cells (fmtC f) 23)).cell? ⟨bt, 0, none⟩ = some (.int .i64 x) := T7b.out.cell 0
    go_wp2_with fail
    refine (fail111_any br bc d3 er 3 true _ R7b.out hne.out).mono ?_
    rintro e w8 ⟨rfl, hr, ho⟩
    rw [hE1.out] at hr
    have R8 := hide hr
    have O8 := hide (O7b.out.trans ho)
    have F8 := hide (ho.blk F7b.out nFr.out nF.out)
    have T8 := hide (ho.blk T7b.out nTr.out nT.out)
    have nG : Hid (w7.heap.size ≠ br ∧ w7.heap.size ≠ bc) := hide ⟨by omega, by omega⟩
    have G8 := hide (ho.blk G7.out nG.out.1 nG.out.2)
    have Z8 := Nat.le_trans Z7b ho.2.2.2.1
    clear hr ho y0
    go_wp2_with fail
    refine (fail111_any br bc d3 e1 pe (pe != 0) _ R8.out hne.out).mono ?_
    rintro e w9 ⟨rfl, hr, ho⟩
    rw [hE2.out] at hr
    have R9 := hide hr
    have O9 := hide (O8.out.trans ho)
    have F9 := hide (ho.blk F8.out nFr.out nF.out)
    have T9 := hide (ho.blk T8.out nTr.out nT.out)
    have G9 := hide (ho.blk G8.out nG.out.1 nG.out.2)
    have Z9 := Nat.le_trans Z8 ho.2.2.2.1
    clear hr ho
    have z1 := R9.out.err
    go_wp2_with fail
    have F10 := hide (show Blk w.heap.size 58 #[.int .i64 0, .int .i64 0, .int .i64 0, .int .i64 0, .bool false, .bool false, .int .i64 0, .int .i64 0, .int .i64 0, .int .i64 0, .int .i64 0, .int .i64 0, .string ⟨#[]⟩] w9.drew from F9.out)
    have T10 := hide (show Blk bt 58 #[.int .i64 x, .int .i64 y, .int .i64 0, .int .i64 0, .bool false, .bool false, .int .i64 0, .int .i64 0, .int .i64 0, .int .i64 0, .int .i64 0, .int .i64 0, .string ⟨#[]⟩] w9.drew from T9.out)
    have R10 := hide (show IsRd br bc d3 e2 w9.drew from R9.out)
    have O10 := hide (show Only2 br bc w w9.drew from O9.out)
    have G10 := hide (show Blk w7.heap.size 23 (fmtC f) w9.drew from G9.out)
    have nGT : Hid (w7.heap.size ≠ bt) := hide (by have := T7.out.lt; omega)
    refine plan_region [(0, true), (1, true), (3, true), (2, false), (4, false), (5, true), (6, false)] (fun w' => Blk w7.heap.size 23 (fmtC f) w') [6] rfl (by kernel_rfl) (fun _ _ d _ _ h => by cases d <;> exact h) ?_
    generalize w9.drew = w10 at *
    refine plan_v (i := 0) (N := (some 46)) (v := ?v6x0) (a' := ?b6x0) rfl rfl G10.out (by rfl) ?hy6x0 ?ha6x0 ?_
    case hy6x0 =>
      intro w' hS'
      have f0 : w'.cell? ⟨w7.heap.size, 0, none⟩ = some (.int .i64 f.bits) := hS'.cell 0
      have f1 : w'.cell? ⟨w7.heap.size, 1, none⟩ = some (.int .i64 f.depth) := hS'.cell 1
      have f2 : w'.cell? ⟨w7.heap.size, 2, none⟩ = some (.bool f.big) := hS'.cell 2
      have f3 : w'.cell? ⟨w7.heap.size, 3, none⟩ = some (.bool f.tru) := hS'.cell 3
      have f4 : w'.cell? ⟨w7.heap.size, 4, none⟩ = some (.int .i64 f.rm) := hS'.cell 4
      have f5 : w'.cell? ⟨w7.heap.size, 5, none⟩ = some (.int .i64 f.gm) := hS'.cell 5
      have f6 : w'.cell? ⟨w7.heap.size, 6, none⟩ = some (.int .i64 f.bm) := hS'.cell 6
      have f7 : w'.cell? ⟨w7.heap.size, 7, none⟩ = some (.int .i64 f.rs) := hS'.cell 7
      have f8 : w'.cell? ⟨w7.heap.size, 8, none⟩ = some (.int .i64 f.gs) := hS'.cell 8
      have f9 : w'.cell? ⟨w7.heap.size, 9, none⟩ = some (.int .i64 f.bs) := hS'.cell 9
      go_simp
      with_reducible rfl
    case ha6x0 =>
      simp only [Act.put, List.setIfInBounds_toArray, List.set_cons_zero, List.set_cons_succ]
      rfl
    refine plan_v (i := 1) (N := (some 47)) (v := ?v6x1) (a' := ?b6x1) rfl rfl G10.out (by rfl) ?hy6x1 ?ha6x1 ?_
    case hy6x1 =>
      intro w' hS'
      go_simp
      with_reducible rfl
    case ha6x1 =>
      simp only [Act.put, List.setIfInBounds_toArray, List.set_cons_zero, List.set_cons_succ]
      rfl
    refine plan_v (i := 3) (N := (some 49)) (v := ?v6x3) (a' := ?b6x3) rfl rfl G10.out (by rfl) ?hy6x3 ?ha6x3 ?_
    case hy6x3 =>
      intro w' hS'
      go_simp
      with_reducible rfl
    case ha6x3 =>
      simp only [Act.put, List.setIfInBounds_toArray, List.set_cons_zero, List.set_cons_succ]
      rfl
    refine plan_e (i := 2) rfl (by rfl) (fun K hK => ?_)
    go_simp
    refine (text110_any br bc d3 e2 _ R10.out hne ok3).mono ?_
    rintro e w11 ⟨rfl, hr, ho⟩
    have R11 := hide hr
    have O11 := hide (O10.out.trans ho)
    have F11 := hide (ho.blk F10.out nFr.out nF.out)
    have T11 := hide (ho.blk T10.out nTr.out nT.out)
    have G11 := hide (ho.blk G10.out nG.out.1 nG.out.2)
    clear hr ho
    refine hK _ _ (fun _ => G11.out) ?_
    clear hK K
    refine plan_e (i := 4) rfl (by rfl) (fun K hK => ?_)
    have t2 : w11.cell? ⟨bt, 2, none⟩ = some (.int .i64 0) := T11.out.cell 2
    have t3 : w11.cell? ⟨bt, 3, none⟩ = some (.int .i64 0) := T11.out.cell 3
    have t4 : w11.cell? ⟨bt, 4, none⟩ = some (.bool false) := T11.out.cell 4
    have t5 : w11.cell? ⟨bt, 5, none⟩ = some (.bool false) := T11.out.cell 5
    have t6 : w11.cell? ⟨bt, 6, none⟩ = some (.int .i64 0) := T11.out.cell 6
    have t7 : w11.cell? ⟨bt, 7, none⟩ = some (.int .i64 0) := T11.out.cell 7
    have t8 : w11.cell? ⟨bt, 8, none⟩ = some (.int .i64 0) := T11.out.cell 8
    have t9 : w11.cell? ⟨bt, 9, none⟩ = some (.int .i64 0) := T11.out.cell 9
    have t10 : w11.cell? ⟨bt, 10, none⟩ = some (.int .i64 0) := T11.out.cell 10
    have t11 : w11.cell? ⟨bt, 11, none⟩ = some (.int .i64 0) := T11.out.cell 11
    have q2 : w11.frozen? ⟨bt, 2, none⟩ = false := T11.out.fr 2
    have q3 : w11.frozen? ⟨bt, 3, none⟩ = false := T11.out.fr 3
    have q4 : w11.frozen? ⟨bt, 4, none⟩ = false := T11.out.fr 4
    have q5 : w11.frozen? ⟨bt, 5, none⟩ = false := T11.out.fr 5
    have q6 : w11.frozen? ⟨bt, 6, none⟩ = false := T11.out.fr 6
    have q7 : w11.frozen? ⟨bt, 7, none⟩ = false := T11.out.fr 7
    have q8 : w11.frozen? ⟨bt, 8, none⟩ = false := T11.out.fr 8
    have q9 : w11.frozen? ⟨bt, 9, none⟩ = false := T11.out.fr 9
    have q10 : w11.frozen? ⟨bt, 10, none⟩ = false := T11.out.fr 10
    have q11 : w11.frozen? ⟨bt, 11, none⟩ = false := T11.out.fr 11
    go_simp
    obtain ⟨w12, hw12⟩ : ∃ w12 : World, w12 = ((((((((((w11.setCell ⟨bt, 2, none⟩ (.int .i64 f.bits)).setCell ⟨bt, 3, none⟩ (.int .i64 f.depth)).setCell ⟨bt, 4, none⟩ (.bool f.big)).setCell ⟨bt, 5, none⟩ (.bool f.tru)).setCell ⟨bt, 6, none⟩ (.int .i64 f.rm)).setCell ⟨bt, 7, none⟩ (.int .i64 f.gm)).setCell ⟨bt, 8, none⟩ (.int .i64 f.bm)).setCell ⟨bt, 9, none⟩ (.int .i64 f.rs)).setCell ⟨bt, 10, none⟩ (.int .i64 f.gs)).setCell ⟨bt, 11, none⟩ (.int .i64 f.bs)) := ⟨_, rfl⟩
    have T12 := hide (fmt_set bt x y f w11 T11.out)
    have on12 : Only bt w11 w12 := by rw [hw12]; exact fmt_only bt f w11
    rw [← hw12] at T12
    have F12 := hide (F11.out.only on12 (by omega))
    have R12 := hide (show IsRd br bc (rdC d3 e2) (rdE d3 e2) w12 from ⟨R11.out.1.only on12 nTr.out.symm, R11.out.2.only on12 nT.out.symm⟩)
    have O12 := hide (Only2.of1 br bc (Nat.le_of_lt hlt) on12 O11.out)
    have G12 := hide (G11.out.only on12 nGT.out)
    rw [← hw12]
    clear hw12 on12
    refine hK _ _ (fun _ => G12.out) ?_
    clear hK K
    refine plan_v (i := 5) (N := (some 50)) (v := ?v6x5) (a' := ?b6x5) rfl rfl G12.out (by rfl) ?hy6x5 ?ha6x5 ?_
    case hy6x5 =>
      intro w' hS'
      go_simp
      with_reducible rfl
    case ha6x5 =>
      simp only [Act.put, List.setIfInBounds_toArray, List.set_cons_zero, List.set_cons_succ]
      rfl
    refine plan_e (i := 6) rfl (by rfl) (fun K hK => ?_)
    have c12 : w12.cell? ⟨bt, 12, none⟩ = some (.string ⟨#[]⟩) := T12.out.cell 12
    have p12 : w12.frozen? ⟨bt, 12, none⟩ = false := T12.out.fr 12
    go_simp
    have T13 := hide (Blk.set T12.out 12 (.string (rdT d3 e2)))
    have on13 := only_set bt 12 w12 (.string (rdT d3 e2))
    have F13 := hide (F12.out.only on13 (by omega))
    have R13 := hide (show IsRd br bc (rdC d3 e2) (rdE d3 e2) (w12.setCell ⟨bt, 12, none⟩ (.string (rdT d3 e2))) from ⟨R12.out.1.only on13 nTr.out.symm, R12.out.2.only on13 nT.out.symm⟩)
    have O13 := hide (Only2.of1 br bc (Nat.le_of_lt hlt) on13 O12.out)
    refine hK _ _ (fun h => absurd (by simp) h) ?_
    clear hK K
    refine plan_done ?_
    obtain ⟨w13, hw13⟩ : ∃ w13 : World, w13 = w12.setCell ⟨bt, 12, none⟩ (.string (rdT d3 e2)) := ⟨_, rfl⟩
    rw [← hw13] at T13 F13 R13 O13
    rw [← hw13]
    clear hw13 on13
    go_upto_region 7 with fail
    go_step
    refine wpList_load_row rfl 58 (.tmp 3) rfl bt rfl 58 _ _ _ T13.out Try.underlying58 rfl (by kernel_rfl) ?_
    refine wpList_store_row rfl 58 (.tmp 2) (.tmp 51) rfl w.heap.size (staC x y f (rdT d3 e2)) rfl rfl 58 _ F13.out (by kernel_rfl) rfl (by simp [Value.oneCell']) ?_
    have FE := hide (Blk.row (C' := (staC x y f (rdT d3 e2))) F13.out)
    have on := hide (only_row w.heap.size w13 (staC x y f (rdT d3 e2)))
    generalize w13.setRow w.heap.size (staC x y f (rdT d3 e2)) = wz at *
    go_wp2_with fail
    refine bodyPost_ret (v := .agg (staC x y f (rdT d3 e2))) (results_cell_row rfl _ _ w.heap.size 58 _ (0, 0) _ rfl FE.out Try.underlying58 rfl (by kernel_rfl)) rfl ?_
    exact ⟨rfl, ⟨Blk.only R13.out.1 on.out nFr.out.symm, IsCur.only R13.out.2 on.out nF.out.symm⟩, Only2.of1 br bc (Nat.le_refl _) on.out O13.out⟩

set_option maxHeartbeats 6400000 in
set_option maxRecDepth 100000 in
theorem startOf_yes1 (br bc : Nat) (c : Cu) (er : Int) (w : World) (h : IsRd br bc c er w) (hne : Hid (br ≠ bc)) (ok0 : Hid c.ok) (x y : Int) (d d3 : Cu) (S : ByteArray) (f : Fmt) (pe e1 e2 : Int) (hx : Hid (c.int 2 = x)) (hy : Hid ((c.bytes 2).int 2 = y)) (hd : Hid ((c.bytes 2).bytes 2 = d)) (hS : Hid (d.out 16 = S)) (h3 : Hid (d.bytes 16 = d3))
    (hx0 : (x == 0) = false) (hE1 : Hid (rdF d3 er (y == 0) 3 = e1)) (hE2 : Hid (rdF d3 e1 (pe != 0) pe = e2)) (hz : (e2 == 0) = true)
    (KP : Hid (∀ w, Calls Try.prog 15 #[.string S] w fun e w' => e = .returned (.tuple #[fmtV f, .int .i64 pe]) ∧ Below w.heap.size w w')) :
    Calls Try.prog 119 #[.pointer (some ⟨br, 0, none⟩)] w fun e w' => e = .returned (.agg (staC x y f (rdT d3 e2))) ∧ IsRd br bc (rdC d3 e2) (rdE d3 e2) w' ∧ Only2 br bc w w' := by
  have ok1 := hide (cu_ok c 2 ok0.out)
  have ok2 : Hid d.ok := hide (by rw [← hd.out]; exact cu_ok _ 2 ok1.out)
  have ok3 : Hid d3.ok := hide (by rw [← h3.out]; exact cu_ok _ 16 ok2.out)
  have hbr : br < w.heap.size := h.1.lt
  have hbc : bc < w.heap.size := h.2.lt
  have nF : Hid (w.heap.size ≠ bc) := hide (by omega)
  have F0 := hide (Blk.new w 58 #[.int .i64 0, .int .i64 0, .int .i64 0, .int .i64 0, .bool false, .bool false, .int .i64 0, .int .i64 0, .int .i64 0, .int .i64 0, .int .i64 0, .int .i64 0, .string ⟨#[]⟩])
  have R0 := hide (h.below ((Below.refl _ _).alloc (Nat.le_refl _) (.cells #[.int .i64 0, .int .i64 0, .int .i64 0, .int .i64 0, .bool false, .bool false, .int .i64 0, .int .i64 0, .int .i64 0, .int .i64 0, .int .i64 0, .int .i64 0, .string ⟨#[]⟩] 58)))
  have O0 := hide (Only2.of (br := br) (bc := bc) ((Below.refl w.heap.size w).alloc (Nat.le_refl _) (.cells #[.int .i64 0, .int .i64 0, .int .i64 0, .int .i64 0, .bool false, .bool false, .int .i64 0, .int .i64 0, .int .i64 0, .int .i64 0, .int .i64 0, .int .i64 0, .string ⟨#[]⟩] 58)))
  have Z0 : w.heap.size < (w.alloc (.cells #[.int .i64 0, .int .i64 0, .int .i64 0, .int .i64 0, .bool false, .bool false, .int .i64 0, .int .i64 0, .int .i64 0, .int .i64 0, .int .i64 0, .int .i64 0, .string ⟨#[]⟩] 58)).heap.size := by rw [World.size_alloc]; omega
  clear h
  go_enter Try.func119, Try.ntmps119
  go_upto_region 1 with fail
  generalize w.alloc (.cells #[.int .i64 0, .int .i64 0, .int .i64 0, .int .i64 0, .bool false, .bool false, .int .i64 0, .int .i64 0, .int .i64 0, .int .i64 0, .int .i64 0, .int .i64 0, .string ⟨#[]⟩] 58) = w0 at *
  go_cut [3] (fun s3 wx => StRel br bc ((c.bytes 2).bytes 2) er (c.int 2) ((c.bytes 2).int 2) w s3 wx)
  case first =>
    have F1 := hide (show Blk w.heap.size 58 #[.int .i64 0, .int .i64 0, .int .i64 0, .int .i64 0, .bool false, .bool false, .int .i64 0, .int .i64 0, .int .i64 0, .int .i64 0, .int .i64 0, .int .i64 0, .string ⟨#[]⟩] w0.drew from F0.out)
    have R1 := hide (show IsRd br bc c er w0.drew from R0.out)
    have O1 := hide (show Only2 br bc w w0.drew from O0.out)
    have Z1 : w.heap.size < w0.drew.heap.size := Z0
    clear F0 R0 O0 Z0
    refine pt_region (.q 0 (.q 1 (.q 2 (.q 3 (.q 5 (.q 6 (.q 7 (.q 8 (.two 4 11 (.two 9 11 (.q 10 (.e 11 (.e 12 .nil))) (.e 9 (.q 10 (.e 12 .nil)))) (.e 4 (.e 9 (.q 10 (.e 12 .nil))))))))))))) (fun w' => w'.cell? ⟨br, 0, none⟩ = some (.pointer (some ⟨bc, 0, none⟩))) [12] rfl (by kernel_rfl) (fun _ _ d _ _ h => by cases d <;> exact h) ?_
    generalize w0.drew = w1 at *
    refine pt_v (i := 0) (N := (some 6)) (v := ?vr0) (a' := ?br0) rfl rfl R1.out.ptr (by rfl) ?hyr0 ?har0 ?_
    case hyr0 =>
      intro w' hS'
      go_simp
      with_reducible rfl
    case har0 =>
      simp only [Act.put, List.setIfInBounds_toArray, List.set_cons_zero, List.set_cons_succ]
      rfl
    refine pt_v (i := 1) (N := (some 7)) (v := ?vr1) (a' := ?br1) rfl rfl R1.out.ptr (by rfl) ?hyr1 ?har1 ?_
    case hyr1 =>
      intro w' hS'
      go_simp
      with_reducible rfl
    case har1 =>
      simp only [Act.put, List.setIfInBounds_toArray, List.set_cons_zero, List.set_cons_succ]
      rfl
    refine pt_v (i := 2) (N := (some 8)) (v := ?vr2) (a' := ?br2) rfl rfl R1.out.ptr (by rfl) ?hyr2 ?har2 ?_
    case hyr2 =>
      intro w' hS'
      go_simp
      with_reducible rfl
    case har2 =>
      simp only [Act.put, List.setIfInBounds_toArray, List.set_cons_zero, List.set_cons_succ]
      rfl
    refine pt_v (i := 3) (N := (some 9)) (v := ?vr3) (a' := ?br3) rfl rfl R1.out.ptr (by rfl) ?hyr3 ?har3 ?_
    case hyr3 =>
      intro w' hS'
      have x0 := hS'
      go_simp
      with_reducible rfl
    case har3 =>
      simp only [Act.put, List.setIfInBounds_toArray, List.set_cons_zero, List.set_cons_succ]
      rfl
    refine pt_v (i := 5) (N := (some 11)) (v := ?vr5) (a' := ?br5) rfl rfl R1.out.ptr (by rfl) ?hyr5 ?har5 ?_
    case hyr5 =>
      intro w' hS'
      go_simp
      with_reducible rfl
    case har5 =>
      simp only [Act.put, List.setIfInBounds_toArray, List.set_cons_zero, List.set_cons_succ]
      rfl
    refine pt_v (i := 6) (N := (some 12)) (v := ?vr6) (a' := ?br6) rfl rfl R1.out.ptr (by rfl) ?hyr6 ?har6 ?_
    case hyr6 =>
      intro w' hS'
      go_simp
      with_reducible rfl
    case har6 =>
      simp only [Act.put, List.setIfInBounds_toArray, List.set_cons_zero, List.set_cons_succ]
      rfl
    refine pt_v (i := 7) (N := (some 13)) (v := ?vr7) (a' := ?br7) rfl rfl R1.out.ptr (by rfl) ?hyr7 ?har7 ?_
    case hyr7 =>
      intro w' hS'
      go_simp
      with_reducible rfl
    case har7 =>
      simp only [Act.put, List.setIfInBounds_toArray, List.set_cons_zero, List.set_cons_succ]
      rfl
    refine pt_v (i := 8) (N := (some 14)) (v := ?vr8) (a' := ?br8) rfl rfl R1.out.ptr (by rfl) ?hyr8 ?har8 ?_
    case hyr8 =>
      intro w' hS'
      have x0 := hS'
      go_simp
      with_reducible rfl
    case har8 =>
      simp only [Act.put, List.setIfInBounds_toArray, List.set_cons_zero, List.set_cons_succ]
      rfl
    refine pt_two (i := 4) (j := 11) rfl rfl (by rfl) (by rfl) (fun K hK => ?_) (fun K hK => ?_)
    · go_simp
      refine (int_any bc c 2 (by simp) _ R1.out.2 ok0.out).mono ?_
      rintro e w2 ⟨rfl, hc, ho⟩
      have R2 := hide (R1.out.step hne.out hc ho)
      have O2 := hide (O1.out.trans (Only2.cur ho))
      have F2 := hide (F1.out.only ho nF.out)
      have Z2 := Nat.le_trans Z1 ho.size
      clear hc ho
      refine hK _ _ (fun _ => R2.out.ptr) ?_
      clear hK K
      refine pt_two (i := 9) (j := 11) rfl rfl (by rfl) (by rfl) (fun K hK => ?_) (fun K hK => ?_)
      · go_simp
        refine (int_any bc (c.bytes 2) 2 (by simp) _ R2.out.2 ok1.out).mono ?_
        rintro e w3 ⟨rfl, hc, ho⟩
        have R3 := hide (R2.out.step hne.out hc ho)
        have O3 := hide (O2.out.trans (Only2.cur ho))
        have F3 := hide (F2.out.only ho nF.out)
        have Z3 := Nat.le_trans Z2 ho.size
        clear hc ho
        refine hK _ _ (fun _ => R3.out.ptr) ?_
        clear hK K
        refine pt_v (i := 10) (N := (some 16)) (v := ?va10) (a' := ?ba10) rfl rfl R3.out.ptr (by rfl) ?hya10 ?haa10 ?_
        case hya10 =>
          intro w' hS'
          go_simp
          with_reducible rfl
        case haa10 =>
          simp only [Act.put, List.setIfInBounds_toArray, List.set_cons_zero, List.set_cons_succ]
          rfl
        refine pt_e (i := 11) rfl (by rfl) (fun K hK => ?_)
        go_simp
        have R4 := hide (R3.out.below ((Below.refl _ _).alloc (Nat.le_refl _) (.cells #[.int .i64 0, .int .i64 0, .int .i64 0, .int .i64 0, .bool false, .bool false, .int .i64 0, .int .i64 0, .int .i64 0, .int .i64 0, .int .i64 0, .int .i64 0, .string ⟨#[]⟩] 58)))
        have O4 := hide (O3.out.trans (Only2.of ((Below.refl _ _).alloc (Nat.le_refl _) (.cells #[.int .i64 0, .int .i64 0, .int .i64 0, .int .i64 0, .bool false, .bool false, .int .i64 0, .int .i64 0, .int .i64 0, .int .i64 0, .int .i64 0, .int .i64 0, .string ⟨#[]⟩] 58))))
        have F4 := hide (F3.out.alloc (.cells #[.int .i64 0, .int .i64 0, .int .i64 0, .int .i64 0, .bool false, .bool false, .int .i64 0, .int .i64 0, .int .i64 0, .int .i64 0, .int .i64 0, .int .i64 0, .string ⟨#[]⟩] 58))
        have T4 := hide (Blk.new w3 58 #[.int .i64 0, .int .i64 0, .int .i64 0, .int .i64 0, .bool false, .bool false, .int .i64 0, .int .i64 0, .int .i64 0, .int .i64 0, .int .i64 0, .int .i64 0, .string ⟨#[]⟩])
        have Z4 : w.heap.size < (w3.alloc (.cells #[.int .i64 0, .int .i64 0, .int .i64 0, .int .i64 0, .bool false, .bool false, .int .i64 0, .int .i64 0, .int .i64 0, .int .i64 0, .int .i64 0, .int .i64 0, .string ⟨#[]⟩] 58)).heap.size := by rw [World.size_alloc]; omega
        refine hK _ _ (fun _ => R4.out.ptr) ?_
        clear hK K
        obtain ⟨w4, hw⟩ : ∃ w4 : World, w4 = w3.alloc (.cells #[.int .i64 0, .int .i64 0, .int .i64 0, .int .i64 0, .bool false, .bool false, .int .i64 0, .int .i64 0, .int .i64 0, .int .i64 0, .int .i64 0, .int .i64 0, .string ⟨#[]⟩] 58) := ⟨_, rfl⟩
        rw [← hw] at R4 O4 F4 T4 Z4 ⊢
        clear hw
        refine pt_e (i := 12) rfl (by rfl) (fun K hK => ?_)
        refine wp_store_row 58 (.tmp 3) (.tmp 16) rfl w3.heap.size _ rfl rfl 58 _ T4.out (by kernel_rfl) rfl (by simp [Value.oneCell']) ?_
        refine hK _ _ (fun h => absurd (by simp) h) ?_
        clear hK K
        refine pt_done ?_
        go_wp2_with fail
        go_meet
        exact ⟨w3.heap.size, rfl, T4.out.row, F4.out.only (only_row _ _ _) (by omega), ⟨R4.out.1.only (only_row _ _ _) (by omega), (R4.out.2.only (only_row _ _ _) (by omega))⟩, Only2.of1 br bc (by omega) (only_row _ _ _) O4.out, by omega⟩
      · go_simp
        have R3 := hide (R2.out.below ((Below.refl _ _).alloc (Nat.le_refl _) (.cells #[.int .i64 0, .int .i64 0, .int .i64 0, .int .i64 0, .bool false, .bool false, .int .i64 0, .int .i64 0, .int .i64 0, .int .i64 0, .int .i64 0, .int .i64 0, .string ⟨#[]⟩] 58)))
        have O3 := hide (O2.out.trans (Only2.of ((Below.refl _ _).alloc (Nat.le_refl _) (.cells #[.int .i64 0, .int .i64 0, .int .i64 0, .int .i64 0, .bool false, .bool false, .int .i64 0, .int .i64 0, .int .i64 0, .int .i64 0, .int .i64 0, .int .i64 0, .string ⟨#[]⟩] 58))))
        have F3 := hide (F2.out.alloc (.cells #[.int .i64 0, .int .i64 0, .int .i64 0, .int .i64 0, .bool false, .bool false, .int .i64 0, .int .i64 0, .int .i64 0, .int .i64 0, .int .i64 0, .int .i64 0, .string ⟨#[]⟩] 58))
        have T3 := hide (Blk.new w2 58 #[.int .i64 0, .int .i64 0, .int .i64 0, .int .i64 0, .bool false, .bool false, .int .i64 0, .int .i64 0, .int .i64 0, .int .i64 0, .int .i64 0, .int .i64 0, .string ⟨#[]⟩])
        have Z3 : w.heap.size < (w2.alloc (.cells #[.int .i64 0, .int .i64 0, .int .i64 0, .int .i64 0, .bool false, .bool false, .int .i64 0, .int .i64 0, .int .i64 0, .int .i64 0, .int .i64 0, .int .i64 0, .string ⟨#[]⟩] 58)).heap.size := by rw [World.size_alloc]; omega
        refine hK _ _ (fun _ => R3.out.ptr) ?_
        clear hK K
        obtain ⟨w3, hw⟩ : ∃ w3 : World, w3 = w2.alloc (.cells #[.int .i64 0, .int .i64 0, .int .i64 0, .int .i64 0, .bool false, .bool false, .int .i64 0, .int .i64 0, .int .i64 0, .int .i64 0, .int .i64 0, .int .i64 0, .string ⟨#[]⟩] 58) := ⟨_, rfl⟩
        rw [← hw] at R3 O3 F3 T3 Z3 ⊢
        clear hw
        refine pt_e (i := 9) rfl (by rfl) (fun K hK => ?_)
        go_simp
        refine (int_any bc (c.bytes 2) 2 (by simp) _ R3.out.2 ok1.out).mono ?_
        rintro e w4 ⟨rfl, hc, ho⟩
        have R4 := hide (R3.out.step hne.out hc ho)
        have O4 := hide (O3.out.trans (Only2.cur ho))
        have F4 := hide (F3.out.only ho nF.out)
        have Z4 := Nat.le_trans Z3 ho.size
        have T4 := hide (T3.out.only ho (by omega))
        clear hc ho
        refine hK _ _ (fun _ => R4.out.ptr) ?_
        clear hK K
        refine pt_v (i := 10) (N := (some 16)) (v := ?vb10) (a' := ?bb10) rfl rfl R4.out.ptr (by rfl) ?hyb10 ?hab10 ?_
        case hyb10 =>
          intro w' hS'
          go_simp
          with_reducible rfl
        case hab10 =>
          simp only [Act.put, List.setIfInBounds_toArray, List.set_cons_zero, List.set_cons_succ]
          rfl
        refine pt_e (i := 12) rfl (by rfl) (fun K hK => ?_)
        refine wp_store_row 58 (.tmp 3) (.tmp 16) rfl w2.heap.size _ rfl rfl 58 _ T4.out (by kernel_rfl) rfl (by simp [Value.oneCell']) ?_
        refine hK _ _ (fun h => absurd (by simp) h) ?_
        clear hK K
        refine pt_done ?_
        go_wp2_with fail
        go_meet
        exact ⟨w2.heap.size, rfl, T4.out.row, F4.out.only (only_row _ _ _) (by omega), ⟨R4.out.1.only (only_row _ _ _) (by omega), (R4.out.2.only (only_row _ _ _) (by omega))⟩, Only2.of1 br bc (by omega) (only_row _ _ _) O4.out, by omega⟩
    · go_simp
      have R2 := hide (R1.out.below ((Below.refl _ _).alloc (Nat.le_refl _) (.cells #[.int .i64 0, .int .i64 0, .int .i64 0, .int .i64 0, .bool false, .bool false, .int .i64 0, .int .i64 0, .int .i64 0, .int .i64 0, .int .i64 0, .int .i64 0, .string ⟨#[]⟩] 58)))
      have O2 := hide (O1.out.trans (Only2.of ((Below.refl _ _).alloc (Nat.le_refl _) (.cells #[.int .i64 0, .int .i64 0, .int .i64 0, .int .i64 0, .bool false, .bool false, .int .i64 0, .int .i64 0, .int .i64 0, .int .i64 0, .int .i64 0, .int .i64 0, .string ⟨#[]⟩] 58))))
      have F2 := hide (F1.out.alloc (.cells #[.int .i64 0, .int .i64 0, .int .i64 0, .int .i64 0, .bool false, .bool false, .int .i64 0, .int .i64 0, .int .i64 0, .int .i64 0, .int .i64 0, .int .i64 0, .string ⟨#[]⟩] 58))
      have T2 := hide (Blk.new w1 58 #[.int .i64 0, .int .i64 0, .int .i64 0, .int .i64 0, .bool false, .bool false, .int .i64 0, .int .i64 0, .int .i64 0, .int .i64 0, .int .i64 0, .int .i64 0, .string ⟨#[]⟩])
      have Z2 : w.heap.size < (w1.alloc (.cells #[.int .i64 0, .int .i64 0, .int .i64 0, .int .i64 0, .bool false, .bool false, .int .i64 0, .int .i64 0, .int .i64 0, .int .i64 0, .int .i64 0, .int .i64 0, .string ⟨#[]⟩] 58)).heap.size := by rw [World.size_alloc]; omega
      refine hK _ _ (fun _ => R2.out.ptr) ?_
      clear hK K
      obtain ⟨w2, hw⟩ : ∃ w2 : World, w2 = w1.alloc (.cells #[.int .i64 0, .int .i64 0, .int .i64 0, .int .i64 0, .bool false, .bool false, .int .i64 0, .int .i64 0, .int .i64 0, .int .i64 0, .int .i64 0, .int .i64 0, .string ⟨#[]⟩] 58) := ⟨_, rfl⟩
      rw [← hw] at R2 O2 F2 T2 Z2 ⊢
      clear hw
      refine pt_e (i := 4) rfl (by rfl) (fun K hK => ?_)
      go_simp
      refine (int_any bc c 2 (by simp) _ R2.out.2 ok0.out).mono ?_
      rintro e w3 ⟨rfl, hc, ho⟩
      have R3 := hide (R2.out.step hne.out hc ho)
      have O3 := hide (O2.out.trans (Only2.cur ho))
      have F3 := hide (F2.out.only ho nF.out)
      have Z3 := Nat.le_trans Z2 ho.size
      have T3 := hide (T2.out.only ho (by omega))
      clear hc ho
      refine hK _ _ (fun _ => R3.out.ptr) ?_
      clear hK K
      refine pt_e (i := 9) rfl (by rfl) (fun K hK => ?_)
      go_simp
      refine (int_any bc (c.bytes 2) 2 (by simp) _ R3.out.2 ok1.out).mono ?_
      rintro e w4 ⟨rfl, hc, ho⟩
      have R4 := hide (R3.out.step hne.out hc ho)
      have O4 := hide (O3.out.trans (Only2.cur ho))
      have F4 := hide (F3.out.only ho nF.out)
      have Z4 := Nat.le_trans Z3 ho.size
      have T4 := hide (T3.out.only ho (by omega))
      clear hc ho
      refine hK _ _ (fun _ => R4.out.ptr) ?_
      clear hK K
      refine pt_v (i := 10) (N := (some 16)) (v := ?vc10) (a' := ?bc10) rfl rfl R4.out.ptr (by rfl) ?hyc10 ?hac10 ?_
      case hyc10 =>
        intro w' hS'
        go_simp
        with_reducible rfl
      case hac10 =>
        simp only [Act.put, List.setIfInBounds_toArray, List.set_cons_zero, List.set_cons_succ]
        rfl
      refine pt_e (i := 12) rfl (by rfl) (fun K hK => ?_)
      refine wp_store_row 58 (.tmp 3) (.tmp 16) rfl w1.heap.size _ rfl rfl 58 _ T4.out (by kernel_rfl) rfl (by simp [Value.oneCell']) ?_
      refine hK _ _ (fun h => absurd (by simp) h) ?_
      clear hK K
      refine pt_done ?_
      go_wp2_with fail
      go_meet
      exact ⟨w1.heap.size, rfl, T4.out.row, F4.out.only (only_row _ _ _) (by omega), ⟨R4.out.1.only (only_row _ _ _) (by omega), (R4.out.2.only (only_row _ _ _) (by omega))⟩, Only2.of1 br bc (by omega) (only_row _ _ _) O4.out, by omega⟩
  case rest =>
    obtain ⟨bt, rfl, hT5, hF5, hR5, hO5, hlt⟩ := hcut
    obtain ⟨w5, hw5⟩ : ∃ w5 : World, w5 = wc := ⟨_, rfl⟩
    rw [← hw5] at hT5 hF5 hR5 hO5
    rw [← hw5]
    clear hw5
    rw [hx.out, hy.out] at hT5
    rw [hd.out] at hR5
    have T5 := hide hT5
    have F5 := hide hF5
    have R5 := hide hR5
    have O5 := hide hO5
    have Z5 : w.heap.size < w5.heap.size := F5.out.lt
    have nT : Hid (bt ≠ bc) := hide (by omega)
    have nTr : Hid (bt ≠ br) := hide (by omega)
    have nFr : Hid (w.heap.size ≠ br) := hide (by omega)
    clear hT5 hF5 hR5 hO5
    have okd := ok2
    have x0 := R5.out.ptr
    go_wp2_with fail
    refine (bytes_any bc d 16 _ R5.out.2 okd.out (by decide)).mono ?_
    rintro e w6 ⟨rfl, hc, ho⟩
    have R6 := hide (R5.out.step hne.out hc ho)
    have O6 := hide (O5.out.trans (Only2.cur ho))
    have F6 := hide (F5.out.only ho nF.out)
    have T6 := hide (T5.out.only ho nT.out)
    have Z6 := Nat.le_trans Z5 ho.size
    clear hc ho
    clear x0
    rw [hS.out]
    rw [h3.out] at R6
    go_wp2_with fail
    refine (KP.out _).mono ?_
    rintro e w7 ⟨rfl, hb⟩
    have R7 := hide (R6.out.below hb)
    have O7 := hide (O6.out.trans (Only2.of hb))
    have F7 := hide (F6.out.below hb)
    have T7 := hide (T6.out.below hb)
    have Z7 := Nat.le_trans Z6 hb.size
    clear hb
    have G7 := hide (Blk.new w7 23 (fmtC f))
    have R7b := hide (R7.out.below ((Below.refl _ _).alloc (Nat.le_refl _) (.cells (fmtC f) 23)))
    have O7b := hide (O7.out.trans (Only2.of ((Below.refl _ _).alloc (Nat.le_refl _) (.cells (fmtC f) 23))))
    have F7b := hide (F7.out.alloc (.cells (fmtC f) 23))
    have T7b := hide (T7.out.alloc (.cells (fmtC f) 23))
    have Z7b : w.heap.size < (w7.alloc (.cells (fmtC f) 23)).heap.size := Nat.lt_trans Z7 (by rw [World.size_alloc]; omega)
    have y0 : (w7.alloc (.cells (fmtC f) 23)).cell? ⟨bt, 0, none⟩ = some (.int .i64 x) := T7b.out.cell 0
    have y1 : (w7.alloc (.cells (fmtC f) 23)).cell? ⟨bt, 1, none⟩ = some (.int .i64 y) := T7b.out.cell 1
    go_wp2_with fail
    refine (fail111_any br bc d3 er 3 (y == 0) _ R7b.out hne.out).mono ?_
    rintro e w8 ⟨rfl, hr, ho⟩
    rw [hE1.out] at hr
    have R8 := hide hr
    have O8 := hide (O7b.out.trans ho)
    have F8 := hide (ho.blk F7b.out nFr.out nF.out)
    have T8 := hide (ho.blk T7b.out nTr.out nT.out)
    have nG : Hid (w7.heap.size ≠ br ∧ w7.heap.size ≠ bc) := hide ⟨by omega, by omega⟩
    have G8 := hide (ho.blk G7.out nG.out.1 nG.out.2)
    have Z8 := Nat.le_trans Z7b ho.2.2.2.1
    clear hr ho y0 y1
    go_wp2_with fail
    refine (fail111_any br bc d3 e1 pe (pe != 0) _ R8.out hne.out).mono ?_
    rintro e w9 ⟨rfl, hr, ho⟩
    rw [hE2.out] at hr
    have R9 := hide hr
    have O9 := hide (O8.out.trans ho)
    have F9 := hide (ho.blk F8.out nFr.out nF.out)
    have T9 := hide (ho.blk T8.out nTr.out nT.out)
    have G9 := hide (ho.blk G8.out nG.out.1 nG.out.2)
    have Z9 := Nat.le_trans Z8 ho.2.2.2.1
    clear hr ho
    have z1 := R9.out.err
    go_wp2_with fail
    have F10 := hide (show Blk w.heap.size 58 #[.int .i64 0, .int .i64 0, .int .i64 0, .int .i64 0, .bool false, .bool false, .int .i64 0, .int .i64 0, .int .i64 0, .int .i64 0, .int .i64 0, .int .i64 0, .string ⟨#[]⟩] w9.drew from F9.out)
    have T10 := hide (show Blk bt 58 #[.int .i64 x, .int .i64 y, .int .i64 0, .int .i64 0, .bool false, .bool false, .int .i64 0, .int .i64 0, .int .i64 0, .int .i64 0, .int .i64 0, .int .i64 0, .string ⟨#[]⟩] w9.drew from T9.out)
    have R10 := hide (show IsRd br bc d3 e2 w9.drew from R9.out)
    have O10 := hide (show Only2 br bc w w9.drew from O9.out)
    have G10 := hide (show Blk w7.heap.size 23 (fmtC f) w9.drew from G9.out)
    have nGT : Hid (w7.heap.size ≠ bt) := hide (by have := T7.out.lt; omega)
    refine plan_region [(0, true), (1, true), (3, true), (2, false), (4, false), (5, true), (6, false)] (fun w' => Blk w7.heap.size 23 (fmtC f) w') [6] rfl (by kernel_rfl) (fun _ _ d _ _ h => by cases d <;> exact h) ?_
    generalize w9.drew = w10 at *
    refine plan_v (i := 0) (N := (some 46)) (v := ?v6x0) (a' := ?b6x0) rfl rfl G10.out (by rfl) ?hy6x0 ?ha6x0 ?_
    case hy6x0 =>
      intro w' hS'
      have f0 : w'.cell? ⟨w7.heap.size, 0, none⟩ = some (.int .i64 f.bits) := hS'.cell 0
      have f1 : w'.cell? ⟨w7.heap.size, 1, none⟩ = some (.int .i64 f.depth) := hS'.cell 1
      have f2 : w'.cell? ⟨w7.heap.size, 2, none⟩ = some (.bool f.big) := hS'.cell 2
      have f3 : w'.cell? ⟨w7.heap.size, 3, none⟩ = some (.bool f.tru) := hS'.cell 3
      have f4 : w'.cell? ⟨w7.heap.size, 4, none⟩ = some (.int .i64 f.rm) := hS'.cell 4
      have f5 : w'.cell? ⟨w7.heap.size, 5, none⟩ = some (.int .i64 f.gm) := hS'.cell 5
      have f6 : w'.cell? ⟨w7.heap.size, 6, none⟩ = some (.int .i64 f.bm) := hS'.cell 6
      have f7 : w'.cell? ⟨w7.heap.size, 7, none⟩ = some (.int .i64 f.rs) := hS'.cell 7
      have f8 : w'.cell? ⟨w7.heap.size, 8, none⟩ = some (.int .i64 f.gs) := hS'.cell 8
      have f9 : w'.cell? ⟨w7.heap.size, 9, none⟩ = some (.int .i64 f.bs) := hS'.cell 9
      go_simp
      with_reducible rfl
    case ha6x0 =>
      simp only [Act.put, List.setIfInBounds_toArray, List.set_cons_zero, List.set_cons_succ]
      rfl
    refine plan_v (i := 1) (N := (some 47)) (v := ?v6x1) (a' := ?b6x1) rfl rfl G10.out (by rfl) ?hy6x1 ?ha6x1 ?_
    case hy6x1 =>
      intro w' hS'
      go_simp
      with_reducible rfl
    case ha6x1 =>
      simp only [Act.put, List.setIfInBounds_toArray, List.set_cons_zero, List.set_cons_succ]
      rfl
    refine plan_v (i := 3) (N := (some 49)) (v := ?v6x3) (a' := ?b6x3) rfl rfl G10.out (by rfl) ?hy6x3 ?ha6x3 ?_
    case hy6x3 =>
      intro w' hS'
      go_simp
      with_reducible rfl
    case ha6x3 =>
      simp only [Act.put, List.setIfInBounds_toArray, List.set_cons_zero, List.set_cons_succ]
      rfl
    refine plan_e (i := 2) rfl (by rfl) (fun K hK => ?_)
    go_simp
    refine (text110_any br bc d3 e2 _ R10.out hne ok3).mono ?_
    rintro e w11 ⟨rfl, hr, ho⟩
    have R11 := hide hr
    have O11 := hide (O10.out.trans ho)
    have F11 := hide (ho.blk F10.out nFr.out nF.out)
    have T11 := hide (ho.blk T10.out nTr.out nT.out)
    have G11 := hide (ho.blk G10.out nG.out.1 nG.out.2)
    clear hr ho
    refine hK _ _ (fun _ => G11.out) ?_
    clear hK K
    refine plan_e (i := 4) rfl (by rfl) (fun K hK => ?_)
    have t2 : w11.cell? ⟨bt, 2, none⟩ = some (.int .i64 0) := T11.out.cell 2
    have t3 : w11.cell? ⟨bt, 3, none⟩ = some (.int .i64 0) := T11.out.cell 3
    have t4 : w11.cell? ⟨bt, 4, none⟩ = some (.bool false) := T11.out.cell 4
    have t5 : w11.cell? ⟨bt, 5, none⟩ = some (.bool false) := T11.out.cell 5
    have t6 : w11.cell? ⟨bt, 6, none⟩ = some (.int .i64 0) := T11.out.cell 6
    have t7 : w11.cell? ⟨bt, 7, none⟩ = some (.int .i64 0) := T11.out.cell 7
    have t8 : w11.cell? ⟨bt, 8, none⟩ = some (.int .i64 0) := T11.out.cell 8
    have t9 : w11.cell? ⟨bt, 9, none⟩ = some (.int .i64 0) := T11.out.cell 9
    have t10 : w11.cell? ⟨bt, 10, none⟩ = some (.int .i64 0) := T11.out.cell 10
    have t11 : w11.cell? ⟨bt, 11, none⟩ = some (.int .i64 0) := T11.out.cell 11
    have q2 : w11.frozen? ⟨bt, 2, none⟩ = false := T11.out.fr 2
    have q3 : w11.frozen? ⟨bt, 3, none⟩ = false := T11.out.fr 3
    have q4 : w11.frozen? ⟨bt, 4, none⟩ = false := T11.out.fr 4
    have q5 : w11.frozen? ⟨bt, 5, none⟩ = false := T11.out.fr 5
    have q6 : w11.frozen? ⟨bt, 6, none⟩ = false := T11.out.fr 6
    have q7 : w11.frozen? ⟨bt, 7, none⟩ = false := T11.out.fr 7
    have q8 : w11.frozen? ⟨bt, 8, none⟩ = false := T11.out.fr 8
    have q9 : w11.frozen? ⟨bt, 9, none⟩ = false := T11.out.fr 9
    have q10 : w11.frozen? ⟨bt, 10, none⟩ = false := T11.out.fr 10
    have q11 : w11.frozen? ⟨bt, 11, none⟩ = false := T11.out.fr 11
    go_simp
    obtain ⟨w12, hw12⟩ : ∃ w12 : World, w12 = ((((((((((w11.setCell ⟨bt, 2, none⟩ (.int .i64 f.bits)).setCell ⟨bt, 3, none⟩ (.int .i64 f.depth)).setCell ⟨bt, 4, none⟩ (.bool f.big)).setCell ⟨bt, 5, none⟩ (.bool f.tru)).setCell ⟨bt, 6, none⟩ (.int .i64 f.rm)).setCell ⟨bt, 7, none⟩ (.int .i64 f.gm)).setCell ⟨bt, 8, none⟩ (.int .i64 f.bm)).setCell ⟨bt, 9, none⟩ (.int .i64 f.rs)).setCell ⟨bt, 10, none⟩ (.int .i64 f.gs)).setCell ⟨bt, 11, none⟩ (.int .i64 f.bs)) := ⟨_, rfl⟩
    have T12 := hide (fmt_set bt x y f w11 T11.out)
    have on12 : Only bt w11 w12 := by rw [hw12]; exact fmt_only bt f w11
    rw [← hw12] at T12
    have F12 := hide (F11.out.only on12 (by omega))
    have R12 := hide (show IsRd br bc (rdC d3 e2) (rdE d3 e2) w12 from ⟨R11.out.1.only on12 nTr.out.symm, R11.out.2.only on12 nT.out.symm⟩)
    have O12 := hide (Only2.of1 br bc (Nat.le_of_lt hlt) on12 O11.out)
    have G12 := hide (G11.out.only on12 nGT.out)
    rw [← hw12]
    clear hw12 on12
    refine hK _ _ (fun _ => G12.out) ?_
    clear hK K
    refine plan_v (i := 5) (N := (some 50)) (v := ?v6x5) (a' := ?b6x5) rfl rfl G12.out (by rfl) ?hy6x5 ?ha6x5 ?_
    case hy6x5 =>
      intro w' hS'
      go_simp
      with_reducible rfl
    case ha6x5 =>
      simp only [Act.put, List.setIfInBounds_toArray, List.set_cons_zero, List.set_cons_succ]
      rfl
    refine plan_e (i := 6) rfl (by rfl) (fun K hK => ?_)
    have c12 : w12.cell? ⟨bt, 12, none⟩ = some (.string ⟨#[]⟩) := T12.out.cell 12
    have p12 : w12.frozen? ⟨bt, 12, none⟩ = false := T12.out.fr 12
    go_simp
    have T13 := hide (Blk.set T12.out 12 (.string (rdT d3 e2)))
    have on13 := only_set bt 12 w12 (.string (rdT d3 e2))
    have F13 := hide (F12.out.only on13 (by omega))
    have R13 := hide (show IsRd br bc (rdC d3 e2) (rdE d3 e2) (w12.setCell ⟨bt, 12, none⟩ (.string (rdT d3 e2))) from ⟨R12.out.1.only on13 nTr.out.symm, R12.out.2.only on13 nT.out.symm⟩)
    have O13 := hide (Only2.of1 br bc (Nat.le_of_lt hlt) on13 O12.out)
    refine hK _ _ (fun h => absurd (by simp) h) ?_
    clear hK K
    refine plan_done ?_
    obtain ⟨w13, hw13⟩ : ∃ w13 : World, w13 = w12.setCell ⟨bt, 12, none⟩ (.string (rdT d3 e2)) := ⟨_, rfl⟩
    rw [← hw13] at T13 F13 R13 O13
    rw [← hw13]
    clear hw13 on13
    go_upto_region 7 with fail
    go_step
    refine wpList_load_row rfl 58 (.tmp 3) rfl bt rfl 58 _ _ _ T13.out Try.underlying58 rfl (by kernel_rfl) ?_
    refine wpList_store_row rfl 58 (.tmp 2) (.tmp 51) rfl w.heap.size (staC x y f (rdT d3 e2)) rfl rfl 58 _ F13.out (by kernel_rfl) rfl (by simp [Value.oneCell']) ?_
    have FE := hide (Blk.row (C' := (staC x y f (rdT d3 e2))) F13.out)
    have on := hide (only_row w.heap.size w13 (staC x y f (rdT d3 e2)))
    generalize w13.setRow w.heap.size (staC x y f (rdT d3 e2)) = wz at *
    go_wp2_with fail
    refine bodyPost_ret (v := .agg (staC x y f (rdT d3 e2))) (results_cell_row rfl _ _ w.heap.size 58 _ (0, 0) _ rfl FE.out Try.underlying58 rfl (by kernel_rfl)) rfl ?_
    exact ⟨rfl, ⟨Blk.only R13.out.1 on.out nFr.out.symm, IsCur.only R13.out.2 on.out nF.out.symm⟩, Only2.of1 br bc (Nat.le_refl _) on.out O13.out⟩

end Go.Proofs.Ytodlpofpeoiedaa
