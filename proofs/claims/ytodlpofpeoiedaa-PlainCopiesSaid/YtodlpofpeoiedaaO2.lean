/-
  The contract of format.Parse.
-/
import Derived.Test.YtodlpofpeoiedaaO
namespace Go.Proofs.Ytodlpofpeoiedaa
open Go.RowKit

theorem int_at (b : Nat) (c c' : Cu) (k : Nat) (v : Int) (hk : k = 1 ∨ k = 2 ∨ k = 4) (w : World) (h : IsCur 163 b c w) (hok : Hid c.ok) (hc : Hid (c' = c.bytes k)) (hv : Hid (v = c.int k)) :
    Calls Try.prog 73 #[.pointer (some ⟨b, 0, none⟩), .int .i64 k] w fun en w' => en = .returned (.int .i64 v) ∧ IsCur 163 b c' w' ∧ Only b w w' := by
  rw [hc.out, hv.out]
  exact int_any b c k hk w h hok.out

theorem bytes_at (b : Nat) (c c' : Cu) (k : Nat) (v : ByteArray) (w : World) (hk : k ≤ 1099511627776) (h : IsCur 163 b c w) (hok : Hid c.ok) (hc : Hid (c' = c.bytes k)) (hv : Hid (v = c.out k)) :
    Calls Try.prog 74 #[.pointer (some ⟨b, 0, none⟩), .int .i64 k] w fun en w' => en = .returned (.string v) ∧ IsCur 163 b c' w' ∧ Only b w w' := by
  rw [hc.out, hv.out]
  exact bytes_any b c k w h hok.out hk

theorem ok_at {c c' : Cu} {k : Nat} (hc : Hid (c' = c.bytes k)) (h : Hid c.ok) : Hid c'.ok := by
  rw [hc.out]
  exact c.bytes_ok h.out k

theorem fits_int (s : ByteArray) (i k : Nat) : 0 ≤ beV (s.extract i (i + k)).data.toList := (beV_bd _).1

abbrev zeroC : Array Value := #[.int .i64 0, .int .i64 0, .bool false, .bool false, .int .i64 0, .int .i64 0, .int .i64 0, .int .i64 0, .int .i64 0, .int .i64 0]

set_option maxHeartbeats 3200000 in
set_option maxRecDepth 100000 in
theorem parse_short (s : ByteArray) (w : World) (hs : s.size ≤ 1099511627776) (h16 : s.size < 16) :
    Calls Try.prog 15 #[.string s] w fun e w' => e = .returned (.tuple #[.agg #[.int .i64 0, .int .i64 0, .bool false, .bool false, .int .i64 0, .int .i64 0, .int .i64 0, .int .i64 0, .int .i64 0, .int .i64 0], .int .i64 2]) ∧ Below w.heap.size w w' := by
  obtain ⟨c0, hc0⟩ : ∃ c : Cu, c = ⟨s, 0, 0⟩ := ⟨_, rfl⟩
  have K0 : Hid c0.ok := by rw [hc0]; exact ⟨Nat.zero_le _, hs⟩
  obtain ⟨c1, e1⟩ : ∃ c, c = c0.bytes 1 := ⟨_, rfl⟩
  obtain ⟨v1, f1⟩ : ∃ v, v = c0.int 1 := ⟨_, rfl⟩
  have E1 := hide e1; clear e1; have V1 := hide f1; clear f1; have K1 := ok_at E1 K0
  obtain ⟨c2, e2⟩ : ∃ c, c = c1.bytes 1 := ⟨_, rfl⟩
  obtain ⟨v2, f2⟩ : ∃ v, v = c1.int 1 := ⟨_, rfl⟩
  have E2 := hide e2; clear e2; have V2 := hide f2; clear f2; have K2 := ok_at E2 K1
  obtain ⟨c3, e3⟩ : ∃ c, c = c2.bytes 1 := ⟨_, rfl⟩
  obtain ⟨v3, f3⟩ : ∃ v, v = c2.int 1 := ⟨_, rfl⟩
  have E3 := hide e3; clear e3; have V3 := hide f3; clear f3; have K3 := ok_at E3 K2
  obtain ⟨c4, e4⟩ : ∃ c, c = c3.bytes 1 := ⟨_, rfl⟩
  obtain ⟨v4, f4⟩ : ∃ v, v = c3.int 1 := ⟨_, rfl⟩
  have E4 := hide e4; clear e4; have V4 := hide f4; clear f4; have K4 := ok_at E4 K3
  obtain ⟨c5, e5⟩ : ∃ c, c = c4.bytes 2 := ⟨_, rfl⟩
  obtain ⟨v5, f5⟩ : ∃ v, v = c4.int 2 := ⟨_, rfl⟩
  have E5 := hide e5; clear e5; have V5 := hide f5; clear f5; have K5 := ok_at E5 K4
  obtain ⟨c6, e6⟩ : ∃ c, c = c5.bytes 2 := ⟨_, rfl⟩
  obtain ⟨v6, f6⟩ : ∃ v, v = c5.int 2 := ⟨_, rfl⟩
  have E6 := hide e6; clear e6; have V6 := hide f6; clear f6; have K6 := ok_at E6 K5
  obtain ⟨c7, e7⟩ : ∃ c, c = c6.bytes 2 := ⟨_, rfl⟩
  obtain ⟨v7, f7⟩ : ∃ v, v = c6.int 2 := ⟨_, rfl⟩
  have E7 := hide e7; clear e7; have V7 := hide f7; clear f7; have K7 := ok_at E7 K6
  obtain ⟨c8, e8⟩ : ∃ c, c = c7.bytes 1 := ⟨_, rfl⟩
  obtain ⟨v8, f8⟩ : ∃ v, v = c7.int 1 := ⟨_, rfl⟩
  have E8 := hide e8; clear e8; have V8 := hide f8; clear f8; have K8 := ok_at E8 K7
  obtain ⟨c9, e9⟩ : ∃ c, c = c8.bytes 1 := ⟨_, rfl⟩
  obtain ⟨v9, f9⟩ : ∃ v, v = c8.int 1 := ⟨_, rfl⟩
  have E9 := hide e9; clear e9; have V9 := hide f9; clear f9; have K9 := ok_at E9 K8
  obtain ⟨c10, e10⟩ : ∃ c, c = c9.bytes 1 := ⟨_, rfl⟩
  obtain ⟨v10, f10⟩ : ∃ v, v = c9.int 1 := ⟨_, rfl⟩
  have E10 := hide e10; clear e10; have V10 := hide f10; clear f10; have K10 := ok_at E10 K9
  obtain ⟨c11, e11⟩ : ∃ c, c = c10.bytes 3 := ⟨_, rfl⟩
  obtain ⟨v11, f11⟩ : ∃ v, v = c10.out 3 := ⟨_, rfl⟩
  have hsh : Hid (c11.e = 2) := by
    have := Cu.run_short [1, 1, 1, 1, 2, 2, 2, 1, 1, 1, 3] c0 (by rw [hc0]) (by rw [hc0]; simp; omega)
    rw [e11, E10.out, E9.out, E8.out, E7.out, E6.out, E5.out, E4.out, E3.out, E2.out, E1.out]
    exact this
  have E11 := hide e11; clear e11; have V11 := hide f11; clear f11
  have C0 := hide hc0; clear hc0
  go_enter Try.func15, Try.ntmps15
  go_wp2_with fail
  refine (new_any s _).mono ?_
  rintro e w0 ⟨rfl, hc, hb0, hz0⟩
  rw [← C0.out] at hc
  have R0 : Blk w.heap.size 23 zeroC w0 := (Blk.new w 23 zeroC).below hb0
  have B0 : Below w.heap.size w w0 := ((Below.refl _ _).alloc (Nat.le_refl _) _).trans (hb0.mono (by simp))
  simp only [World.size_alloc] at hz0
  simp only [World.size_alloc] at hc
  have nR : w.heap.size ≠ w.heap.size + 1 := by omega
  have I0 := hide hc; clear hc
  -- two bytes
  go_wp2_with fail
  refine (int_at _ c0 c1 1 v1 (by simp) _ I0.out K0 E1 V1).mono ?_
  rintro e w1 ⟨rfl, hc1, ho1⟩
  have R1 := hide (R0.only ho1 nR)
  have B1 := hide (Below.grown B0 ho1 B0.size (by intro k hk; cases hk; omega))
  have I1 := hide hc1; clear hc1 ho1
  go_wp2_with fail
  refine (int_at _ c1 c2 1 v2 (by simp) _ I1.out K1 E2 V2).mono ?_
  rintro e w2 ⟨rfl, hc2, ho2⟩
  have R2 := hide (R1.out.only ho2 nR)
  have B2 := hide (Below.grown B1.out ho2 B1.out.size (by intro k hk; cases hk; omega))
  have I2 := hide hc2; clear hc2 ho2
  have HZ : w.heap.size + 1 < w2.heap.size := I2.out.lt
  have nF1 : w.heap.size + 1 ≠ w2.heap.size := by omega
  have nF : w2.heap.size ≠ w.heap.size + 1 := by omega
  have nRF : w.heap.size ≠ w2.heap.size := by omega
  have hRF : w.heap.size ≤ w2.heap.size := by omega
  have F2 := hide (Blk.new w2 23 #[.int .i64 v1, .int .i64 v2, .bool false, .bool false, .int .i64 0, .int .i64 0, .int .i64 0, .int .i64 0, .int .i64 0, .int .i64 0])
  go_wp2_with fail
  refine (int_at _ c2 c3 1 v3 (by simp) _ (I2.out.alloc _) K2 E3 V3).mono ?_
  rintro e w3 ⟨rfl, hc3, ho3⟩
  have R3 := hide ((R2.out.alloc _).only ho3 nR)
  have B3 := hide (Below.grown (B2.out.alloc B2.out.size _) ho3 (B2.out.alloc B2.out.size _).size (by intro k hk; cases hk; omega))
  have F3 := hide (F2.out.only ho3 nF)
  have I3 := hide hc3; clear hc3 ho3
  go_wp2_with fail
  refine (int_at _ c3 c4 1 v4 (by simp) _ I3.out K3 E4 V4).mono ?_
  rintro e w4 ⟨rfl, hc4, ho4⟩
  have R4 := hide (R3.out.only ho4 nR)
  have B4 := hide (Below.grown B3.out ho4 B3.out.size (by intro k hk; cases hk; omega))
  have F4 := hide (F3.out.only ho4 nF)
  have I4 := hide hc4; clear hc4 ho4
  have f2 : w4.cell? ⟨w2.heap.size, 2, none⟩ = some (.bool false) := F4.out.cell 2
  have r2 := F4.out.fr 2
  have f3 : w4.cell? ⟨w2.heap.size, 3, none⟩ = some (.bool false) := F4.out.cell 3
  have r3 := F4.out.fr 3
  have F4s := hide (show Blk w2.heap.size 23 #[.int .i64 v1, .int .i64 v2, .bool (v3 != 0), .bool (v4 != 0), .int .i64 0, .int .i64 0, .int .i64 0, .int .i64 0, .int .i64 0, .int .i64 0] ((w4.setCell ⟨w2.heap.size, 2, none⟩ (.bool (v3 != 0))).setCell ⟨w2.heap.size, 3, none⟩ (.bool (v4 != 0))) from ((F4.out.set 2 (.bool (v3 != 0))).set 3 (.bool (v4 != 0))))
  go_wp2_with fail
  refine (int_at _ c4 c5 2 v5 (by simp) _ ((I4.out.other nF1 _).other nF1 _) K4 E5 V5).mono ?_
  rintro e w5 ⟨rfl, hc5, ho5⟩
  have R5 := hide (((R4.out.other nRF _).other nRF _).only ho5 nR)
  have B5 := hide (Below.grown ((B4.out.setCell hRF _).setCell hRF _) ho5 ((B4.out.setCell hRF _).setCell hRF _).size (by intro k hk; cases hk; omega))
  have F5 := hide (F4s.out.only ho5 nF)
  have I5 := hide hc5; clear hc5 ho5
  go_wp2_with fail
  refine (int_at _ c5 c6 2 v6 (by simp) _ I5.out K5 E6 V6).mono ?_
  rintro e w6 ⟨rfl, hc6, ho6⟩
  have R6 := hide (R5.out.only ho6 nR)
  have B6 := hide (Below.grown B5.out ho6 B5.out.size (by intro k hk; cases hk; omega))
  have F6 := hide (F5.out.only ho6 nF)
  have I6 := hide hc6; clear hc6 ho6
  go_wp2_with fail
  refine (int_at _ c6 c7 2 v7 (by simp) _ I6.out K6 E7 V7).mono ?_
  rintro e w7 ⟨rfl, hc7, ho7⟩
  have R7 := hide (R6.out.only ho7 nR)
  have B7 := hide (Below.grown B6.out ho7 B6.out.size (by intro k hk; cases hk; omega))
  have F7 := hide (F6.out.only ho7 nF)
  have I7 := hide hc7; clear hc7 ho7
  have f4 : w7.cell? ⟨w2.heap.size, 4, none⟩ = some (.int .i64 0) := F7.out.cell 4
  have r4 := F7.out.fr 4
  have f5 : w7.cell? ⟨w2.heap.size, 5, none⟩ = some (.int .i64 0) := F7.out.cell 5
  have r5 := F7.out.fr 5
  have f6 : w7.cell? ⟨w2.heap.size, 6, none⟩ = some (.int .i64 0) := F7.out.cell 6
  have r6 := F7.out.fr 6
  have F7s := hide (show Blk w2.heap.size 23 #[.int .i64 v1, .int .i64 v2, .bool (v3 != 0), .bool (v4 != 0), .int .i64 v5, .int .i64 v6, .int .i64 v7, .int .i64 0, .int .i64 0, .int .i64 0] (((w7.setCell ⟨w2.heap.size, 4, none⟩ (.int .i64 v5)).setCell ⟨w2.heap.size, 5, none⟩ (.int .i64 v6)).setCell ⟨w2.heap.size, 6, none⟩ (.int .i64 v7)) from (((F7.out.set 4 (.int .i64 v5)).set 5 (.int .i64 v6)).set 6 (.int .i64 v7)))
  go_wp2_with fail
  refine (int_at _ c7 c8 1 v8 (by simp) _ (((I7.out.other nF1 _).other nF1 _).other nF1 _) K7 E8 V8).mono ?_
  rintro e w8 ⟨rfl, hc8, ho8⟩
  have R8 := hide ((((R7.out.other nRF _).other nRF _).other nRF _).only ho8 nR)
  have B8 := hide (Below.grown (((B7.out.setCell hRF _).setCell hRF _).setCell hRF _) ho8 (((B7.out.setCell hRF _).setCell hRF _).setCell hRF _).size (by intro k hk; cases hk; omega))
  have F8 := hide (F7s.out.only ho8 nF)
  have I8 := hide hc8; clear hc8 ho8
  go_wp2_with fail
  refine (int_at _ c8 c9 1 v9 (by simp) _ I8.out K8 E9 V9).mono ?_
  rintro e w9 ⟨rfl, hc9, ho9⟩
  have R9 := hide (R8.out.only ho9 nR)
  have B9 := hide (Below.grown B8.out ho9 B8.out.size (by intro k hk; cases hk; omega))
  have F9 := hide (F8.out.only ho9 nF)
  have I9 := hide hc9; clear hc9 ho9
  go_wp2_with fail
  refine (int_at _ c9 c10 1 v10 (by simp) _ I9.out K9 E10 V10).mono ?_
  rintro e w10 ⟨rfl, hc10, ho10⟩
  have R10 := hide (R9.out.only ho10 nR)
  have B10 := hide (Below.grown B9.out ho10 B9.out.size (by intro k hk; cases hk; omega))
  have F10 := hide (F9.out.only ho10 nF)
  have I10 := hide hc10; clear hc10 ho10
  have f7 : w10.cell? ⟨w2.heap.size, 7, none⟩ = some (.int .i64 0) := F10.out.cell 7
  have r7 := F10.out.fr 7
  have f8 : w10.cell? ⟨w2.heap.size, 8, none⟩ = some (.int .i64 0) := F10.out.cell 8
  have r8 := F10.out.fr 8
  have f9 : w10.cell? ⟨w2.heap.size, 9, none⟩ = some (.int .i64 0) := F10.out.cell 9
  have r9 := F10.out.fr 9
  have F10s := hide (show Blk w2.heap.size 23 #[.int .i64 v1, .int .i64 v2, .bool (v3 != 0), .bool (v4 != 0), .int .i64 v5, .int .i64 v6, .int .i64 v7, .int .i64 v8, .int .i64 v9, .int .i64 v10] (((w10.setCell ⟨w2.heap.size, 7, none⟩ (.int .i64 v8)).setCell ⟨w2.heap.size, 8, none⟩ (.int .i64 v9)).setCell ⟨w2.heap.size, 9, none⟩ (.int .i64 v10)) from (((F10.out.set 7 (.int .i64 v8)).set 8 (.int .i64 v9)).set 9 (.int .i64 v10)))
  go_wp2_with fail
  refine (bytes_at _ c10 c11 3 v11 _ (by decide) (((I10.out.other nF1 _).other nF1 _).other nF1 _) K10 E11 V11).mono ?_
  rintro e w11 ⟨rfl, hc11, ho11⟩
  have R11 := hide ((((R10.out.other nRF _).other nRF _).other nRF _).only ho11 nR)
  have B11 := hide (Below.grown (((B10.out.setCell hRF _).setCell hRF _).setCell hRF _) ho11 (((B10.out.setCell hRF _).setCell hRF _).setCell hRF _).size (by intro k hk; cases hk; omega))
  have F11 := hide (F10s.out.only ho11 nF)
  have I11 := hide hc11; clear hc11 ho11
  have hE : Calls Try.prog 75 #[.pointer (some ⟨w.heap.size + 1, 0, none⟩)] w11 fun en w' => en = .returned (.int .i64 2) ∧ w11 = w' := by
    have := err_any _ c11 _ I11.out
    rw [hsh.out] at this
    exact this
  have HE := hide hE; clear hE
  have g0 : w11.cell? ⟨w.heap.size, 0, none⟩ = some (.int .i64 0) := R11.out.cell 0
  have q0 : w11.frozen? ⟨w.heap.size, 0, none⟩ = false := R11.out.fr 0
  have g1 : w11.cell? ⟨w.heap.size, 1, none⟩ = some (.int .i64 0) := R11.out.cell 1
  have q1 : w11.frozen? ⟨w.heap.size, 1, none⟩ = false := R11.out.fr 1
  have g2 : w11.cell? ⟨w.heap.size, 2, none⟩ = some (.bool false) := R11.out.cell 2
  have q2 : w11.frozen? ⟨w.heap.size, 2, none⟩ = false := R11.out.fr 2
  have g3 : w11.cell? ⟨w.heap.size, 3, none⟩ = some (.bool false) := R11.out.cell 3
  have q3 : w11.frozen? ⟨w.heap.size, 3, none⟩ = false := R11.out.fr 3
  have g4 : w11.cell? ⟨w.heap.size, 4, none⟩ = some (.int .i64 0) := R11.out.cell 4
  have q4 : w11.frozen? ⟨w.heap.size, 4, none⟩ = false := R11.out.fr 4
  have g5 : w11.cell? ⟨w.heap.size, 5, none⟩ = some (.int .i64 0) := R11.out.cell 5
  have q5 : w11.frozen? ⟨w.heap.size, 5, none⟩ = false := R11.out.fr 5
  have g6 : w11.cell? ⟨w.heap.size, 6, none⟩ = some (.int .i64 0) := R11.out.cell 6
  have q6 : w11.frozen? ⟨w.heap.size, 6, none⟩ = false := R11.out.fr 6
  have g7 : w11.cell? ⟨w.heap.size, 7, none⟩ = some (.int .i64 0) := R11.out.cell 7
  have q7 : w11.frozen? ⟨w.heap.size, 7, none⟩ = false := R11.out.fr 7
  have g8 : w11.cell? ⟨w.heap.size, 8, none⟩ = some (.int .i64 0) := R11.out.cell 8
  have q8 : w11.frozen? ⟨w.heap.size, 8, none⟩ = false := R11.out.fr 8
  have g9 : w11.cell? ⟨w.heap.size, 9, none⟩ = some (.int .i64 0) := R11.out.cell 9
  have q9 : w11.frozen? ⟨w.heap.size, 9, none⟩ = false := R11.out.fr 9
  go_wp2_with fail
  refine HE.out.mono ?_
  rintro e w12 ⟨rfl, rfl⟩
  go_wp2_with fail
  refine HE.out.mono ?_
  rintro e w12 ⟨rfl, rfl⟩
  go_wp2_with fail
  have RF0 := hide (show Blk w.heap.size 23 #[.int .i64 0, .int .i64 0, .bool false, .bool false, .int .i64 0, .int .i64 0, .int .i64 0, .int .i64 0, .int .i64 0, .int .i64 0] _ from R11.out.set 0 (.int .i64 0))
  have RF1 := hide (show Blk w.heap.size 23 #[.int .i64 0, .int .i64 0, .bool false, .bool false, .int .i64 0, .int .i64 0, .int .i64 0, .int .i64 0, .int .i64 0, .int .i64 0] _ from RF0.out.set 1 (.int .i64 0))
  have RF2 := hide (show Blk w.heap.size 23 #[.int .i64 0, .int .i64 0, .bool false, .bool false, .int .i64 0, .int .i64 0, .int .i64 0, .int .i64 0, .int .i64 0, .int .i64 0] _ from RF1.out.set 2 (.bool false))
  have RF3 := hide (show Blk w.heap.size 23 #[.int .i64 0, .int .i64 0, .bool false, .bool false, .int .i64 0, .int .i64 0, .int .i64 0, .int .i64 0, .int .i64 0, .int .i64 0] _ from RF2.out.set 3 (.bool false))
  have RF4 := hide (show Blk w.heap.size 23 #[.int .i64 0, .int .i64 0, .bool false, .bool false, .int .i64 0, .int .i64 0, .int .i64 0, .int .i64 0, .int .i64 0, .int .i64 0] _ from RF3.out.set 4 (.int .i64 0))
  have RF5 := hide (show Blk w.heap.size 23 #[.int .i64 0, .int .i64 0, .bool false, .bool false, .int .i64 0, .int .i64 0, .int .i64 0, .int .i64 0, .int .i64 0, .int .i64 0] _ from RF4.out.set 5 (.int .i64 0))
  have RF6 := hide (show Blk w.heap.size 23 #[.int .i64 0, .int .i64 0, .bool false, .bool false, .int .i64 0, .int .i64 0, .int .i64 0, .int .i64 0, .int .i64 0, .int .i64 0] _ from RF5.out.set 6 (.int .i64 0))
  have RF7 := hide (show Blk w.heap.size 23 #[.int .i64 0, .int .i64 0, .bool false, .bool false, .int .i64 0, .int .i64 0, .int .i64 0, .int .i64 0, .int .i64 0, .int .i64 0] _ from RF6.out.set 7 (.int .i64 0))
  have RF8 := hide (show Blk w.heap.size 23 #[.int .i64 0, .int .i64 0, .bool false, .bool false, .int .i64 0, .int .i64 0, .int .i64 0, .int .i64 0, .int .i64 0, .int .i64 0] _ from RF7.out.set 8 (.int .i64 0))
  have RF9 := hide (show Blk w.heap.size 23 #[.int .i64 0, .int .i64 0, .bool false, .bool false, .int .i64 0, .int .i64 0, .int .i64 0, .int .i64 0, .int .i64 0, .int .i64 0] _ from RF8.out.set 9 (.int .i64 0))
  exact bodyPost_ret (results_at Try.results15 _ rfl RF9.out Try.underlying23 rfl (by kernel_rfl)) rfl ⟨rfl, ((((((((((B11.out.setCell (p := ⟨w.heap.size, 0, none⟩) (Nat.le_refl _) _).setCell (p := ⟨w.heap.size, 1, none⟩) (Nat.le_refl _) _).setCell (p := ⟨w.heap.size, 2, none⟩) (Nat.le_refl _) _).setCell (p := ⟨w.heap.size, 3, none⟩) (Nat.le_refl _) _).setCell (p := ⟨w.heap.size, 4, none⟩) (Nat.le_refl _) _).setCell (p := ⟨w.heap.size, 5, none⟩) (Nat.le_refl _) _).setCell (p := ⟨w.heap.size, 6, none⟩) (Nat.le_refl _) _).setCell (p := ⟨w.heap.size, 7, none⟩) (Nat.le_refl _) _).setCell (p := ⟨w.heap.size, 8, none⟩) (Nat.le_refl _) _).setCell (p := ⟨w.heap.size, 9, none⟩) (Nat.le_refl _) _)⟩

end Go.Proofs.Ytodlpofpeoiedaa
