/-
  The contract of format.Parse at sixteen bytes or more.
-/
import Derived.Test.YtodlpofpeoiedaaO2
namespace Go.Proofs.Ytodlpofpeoiedaa
open Go.RowKit

theorem byteV_le (s : ByteArray) (i : Nat) : byteV s i ≤ 9223372036854775807 := by
  have h := (beV_bd (s.extract i (i + 1)).data.toList).2
  have hl : (s.extract i (i + 1)).data.toList.length ≤ 1 := by
    rw [Array.length_toList]
    show (s.extract i (i + 1)).size ≤ 1
    rw [ByteArray.size_extract]
    omega
  have := beV_lt (s.extract i (i + 1)).data.toList (by omega)
  unfold byteV
  omega

set_option maxHeartbeats 3200000 in
set_option maxRecDepth 100000 in
theorem parse_yes (s : ByteArray) (w : World) (hs : s.size ≤ 1099511627776) (h16 : 16 ≤ s.size) (hval : validB (rawF s) = true) :
    Calls Try.prog 15 #[.string s] w fun e w' => e = .returned (.tuple #[fmtV (rawF s), .int .i64 0]) ∧ Below w.heap.size w w' := by
  obtain ⟨c0, hc0⟩ : ∃ c : Cu, c = ⟨s, 0, 0⟩ := ⟨_, rfl⟩
  have K0 : Hid c0.ok := by rw [hc0]; exact ⟨Nat.zero_le _, hs⟩
  obtain ⟨c1, hc1⟩ : ∃ c : Cu, c = ⟨s, 1, 0⟩ := ⟨_, rfl⟩
  obtain ⟨v1, hv1⟩ : ∃ v, v = byteV s 0 := ⟨_, rfl⟩
  have st1 := Cu.step (s := s) (i := 0) (n := 1) (by omega)
  have E1 := hide (show c1 = c0.bytes 1 by rw [hc0, hc1]; exact st1.1.symm)
  have V1 := hide (show v1 = c0.int 1 by rw [hc0, hv1]; exact st1.2.2.symm)
  have K1 := ok_at E1 K0
  clear st1
  obtain ⟨c2, hc2⟩ : ∃ c : Cu, c = ⟨s, 2, 0⟩ := ⟨_, rfl⟩
  obtain ⟨v2, hv2⟩ : ∃ v, v = byteV s 1 := ⟨_, rfl⟩
  have st2 := Cu.step (s := s) (i := 1) (n := 1) (by omega)
  have E2 := hide (show c2 = c1.bytes 1 by rw [hc1, hc2]; exact st2.1.symm)
  have V2 := hide (show v2 = c1.int 1 by rw [hc1, hv2]; exact st2.2.2.symm)
  have K2 := ok_at E2 K1
  clear st2
  obtain ⟨c3, hc3⟩ : ∃ c : Cu, c = ⟨s, 3, 0⟩ := ⟨_, rfl⟩
  obtain ⟨v3, hv3⟩ : ∃ v, v = byteV s 2 := ⟨_, rfl⟩
  have st3 := Cu.step (s := s) (i := 2) (n := 1) (by omega)
  have E3 := hide (show c3 = c2.bytes 1 by rw [hc2, hc3]; exact st3.1.symm)
  have V3 := hide (show v3 = c2.int 1 by rw [hc2, hv3]; exact st3.2.2.symm)
  have K3 := ok_at E3 K2
  clear st3
  obtain ⟨c4, hc4⟩ : ∃ c : Cu, c = ⟨s, 4, 0⟩ := ⟨_, rfl⟩
  obtain ⟨v4, hv4⟩ : ∃ v, v = byteV s 3 := ⟨_, rfl⟩
  have st4 := Cu.step (s := s) (i := 3) (n := 1) (by omega)
  have E4 := hide (show c4 = c3.bytes 1 by rw [hc3, hc4]; exact st4.1.symm)
  have V4 := hide (show v4 = c3.int 1 by rw [hc3, hv4]; exact st4.2.2.symm)
  have K4 := ok_at E4 K3
  clear st4
  obtain ⟨c5, hc5⟩ : ∃ c : Cu, c = ⟨s, 6, 0⟩ := ⟨_, rfl⟩
  obtain ⟨v5, hv5⟩ : ∃ v, v = wordV s 4 := ⟨_, rfl⟩
  have st5 := Cu.step (s := s) (i := 4) (n := 2) (by omega)
  have E5 := hide (show c5 = c4.bytes 2 by rw [hc4, hc5]; exact st5.1.symm)
  have V5 := hide (show v5 = c4.int 2 by rw [hc4, hv5]; exact st5.2.2.symm)
  have K5 := ok_at E5 K4
  clear st5
  obtain ⟨c6, hc6⟩ : ∃ c : Cu, c = ⟨s, 8, 0⟩ := ⟨_, rfl⟩
  obtain ⟨v6, hv6⟩ : ∃ v, v = wordV s 6 := ⟨_, rfl⟩
  have st6 := Cu.step (s := s) (i := 6) (n := 2) (by omega)
  have E6 := hide (show c6 = c5.bytes 2 by rw [hc5, hc6]; exact st6.1.symm)
  have V6 := hide (show v6 = c5.int 2 by rw [hc5, hv6]; exact st6.2.2.symm)
  have K6 := ok_at E6 K5
  clear st6
  obtain ⟨c7, hc7⟩ : ∃ c : Cu, c = ⟨s, 10, 0⟩ := ⟨_, rfl⟩
  obtain ⟨v7, hv7⟩ : ∃ v, v = wordV s 8 := ⟨_, rfl⟩
  have st7 := Cu.step (s := s) (i := 8) (n := 2) (by omega)
  have E7 := hide (show c7 = c6.bytes 2 by rw [hc6, hc7]; exact st7.1.symm)
  have V7 := hide (show v7 = c6.int 2 by rw [hc6, hv7]; exact st7.2.2.symm)
  have K7 := ok_at E7 K6
  clear st7
  obtain ⟨c8, hc8⟩ : ∃ c : Cu, c = ⟨s, 11, 0⟩ := ⟨_, rfl⟩
  obtain ⟨v8, hv8⟩ : ∃ v, v = byteV s 10 := ⟨_, rfl⟩
  have st8 := Cu.step (s := s) (i := 10) (n := 1) (by omega)
  have E8 := hide (show c8 = c7.bytes 1 by rw [hc7, hc8]; exact st8.1.symm)
  have V8 := hide (show v8 = c7.int 1 by rw [hc7, hv8]; exact st8.2.2.symm)
  have K8 := ok_at E8 K7
  clear st8
  obtain ⟨c9, hc9⟩ : ∃ c : Cu, c = ⟨s, 12, 0⟩ := ⟨_, rfl⟩
  obtain ⟨v9, hv9⟩ : ∃ v, v = byteV s 11 := ⟨_, rfl⟩
  have st9 := Cu.step (s := s) (i := 11) (n := 1) (by omega)
  have E9 := hide (show c9 = c8.bytes 1 by rw [hc8, hc9]; exact st9.1.symm)
  have V9 := hide (show v9 = c8.int 1 by rw [hc8, hv9]; exact st9.2.2.symm)
  have K9 := ok_at E9 K8
  clear st9
  obtain ⟨c10, hc10⟩ : ∃ c : Cu, c = ⟨s, 13, 0⟩ := ⟨_, rfl⟩
  obtain ⟨v10, hv10⟩ : ∃ v, v = byteV s 12 := ⟨_, rfl⟩
  have st10 := Cu.step (s := s) (i := 12) (n := 1) (by omega)
  have E10 := hide (show c10 = c9.bytes 1 by rw [hc9, hc10]; exact st10.1.symm)
  have V10 := hide (show v10 = c9.int 1 by rw [hc9, hv10]; exact st10.2.2.symm)
  have K10 := ok_at E10 K9
  clear st10
  obtain ⟨c11, hc11⟩ : ∃ c : Cu, c = ⟨s, 16, 0⟩ := ⟨_, rfl⟩
  obtain ⟨v11, f11⟩ : ∃ v, v = c10.out 3 := ⟨_, rfl⟩
  have E11 := hide (show c11 = c10.bytes 3 by rw [hc10, hc11]; exact (Cu.step (s := s) (i := 13) (n := 3) (by omega)).1.symm)
  have V11 := hide f11; clear f11
  have hsh : Hid (c11.e = 0) := by rw [hc11]; exact rfl
  have hraw : rawF s = ⟨v1, v2, v3 != 0, v4 != 0, v5, v6, v7, v8, v9, v10⟩ := by rw [hv1, hv2, hv3, hv4, hv5, hv6, hv7, hv8, hv9, hv10]; rfl
  have HV : Hid (∀ w, Calls Try.prog 17 #[.agg #[.int .i64 v1, .int .i64 v2, .bool (v3 != 0), .bool (v4 != 0), .int .i64 v5, .int .i64 v6, .int .i64 v7, .int .i64 v8, .int .i64 v9, .int .i64 v10]] w fun e w' => e = .returned (.bool true) ∧ Below w.heap.size w w') := by
    intro w
    have := valid_any (rawF s) w (by rw [hraw, hv8]; exact byteV_le s 10) (by rw [hraw, hv9]; exact byteV_le s 11) (by rw [hraw, hv10]; exact byteV_le s 12)
    rw [hval, hraw] at this
    exact this
  have hR : Hid (rawF s = ⟨v1, v2, v3 != 0, v4 != 0, v5, v6, v7, v8, v9, v10⟩) := hraw
  clear hraw hval
  have C0 := hide hc0
  clear hc0 hc1 hc2 hc3 hc4 hc5 hc6 hc7 hc8 hc9 hc10 hc11 hv1 hv2 hv3 hv4 hv5 hv6 hv7 hv8 hv9 hv10
  go_enter Try.func15, Try.ntmps15
  go_wp2_with fail
  refine (new_any s _).mono ?_
  rintro e w0 ⟨rfl, hc, hb0, hz0⟩
  rw [← C0.out] at hc
  have R0 : Blk w.heap.size 23 zeroC w0 := (Blk.new w 23 zeroC).below hb0
  have B0 : Below w.heap.size w w0 := ((Below.refl _ _).alloc (Nat.le_refl _) _).trans (hb0.mono (by simp))
  simp only [World.size_alloc] at hz0
  simp only [World.size_alloc] at hc
  have nR : w.heap.size ≠ w.heap.size + 1 := by omega
  have I0 := hide hc; clear hc
  -- two bytes
  go_wp2_with fail
  refine (int_at _ c0 c1 1 v1 (by simp) _ I0.out K0 E1 V1).mono ?_
  rintro e w1 ⟨rfl, hc1, ho1⟩
  have R1 := hide (R0.only ho1 nR)
  have B1 := hide (Below.grown B0 ho1 B0.size (by intro k hk; cases hk; omega))
  have I1 := hide hc1; clear hc1 ho1
  go_wp2_with fail
  refine (int_at _ c1 c2 1 v2 (by simp) _ I1.out K1 E2 V2).mono ?_
  rintro e w2 ⟨rfl, hc2, ho2⟩
  have R2 := hide (R1.out.only ho2 nR)
  have B2 := hide (Below.grown B1.out ho2 B1.out.size (by intro k hk; cases hk; omega))
  have I2 := hide hc2; clear hc2 ho2
  have HZ : w.heap.size + 1 < w2.heap.size := I2.out.lt
  have nF1 : w.heap.size + 1 ≠ w2.heap.size := by omega
  have nF : w2.heap.size ≠ w.heap.size + 1 := by omega
  have nRF : w.heap.size ≠ w2.heap.size := by omega
  have hRF : w.heap.size ≤ w2.heap.size := by omega
  have F2 := hide (Blk.new w2 23 #[.int .i64 v1, .int .i64 v2, .bool false, .bool false, .int .i64 0, .int .i64 0, .int .i64 0, .int .i64 0, .int .i64 0, .int .i64 0])
  go_wp2_with fail
  refine (int_at _ c2 c3 1 v3 (by simp) _ (I2.out.alloc _) K2 E3 V3).mono ?_
  rintro e w3 ⟨rfl, hc3, ho3⟩
  have R3 := hide ((R2.out.alloc _).only ho3 nR)
  have B3 := hide (Below.grown (B2.out.alloc B2.out.size _) ho3 (B2.out.alloc B2.out.size _).size (by intro k hk; cases hk; omega))
  have F3 := hide (F2.out.only ho3 nF)
  have I3 := hide hc3; clear hc3 ho3
  go_wp2_with fail
  refine (int_at _ c3 c4 1 v4 (by simp) _ I3.out K3 E4 V4).mono ?_
  rintro e w4 ⟨rfl, hc4, ho4⟩
  have R4 := hide (R3.out.only ho4 nR)
  have B4 := hide (Below.grown B3.out ho4 B3.out.size (by intro k hk; cases hk; omega))
  have F4 := hide (F3.out.only ho4 nF)
  have I4 := hide hc4; clear hc4 ho4
  have f2 : w4.cell? ⟨w2.heap.size, 2, none⟩ = some (.bool false) := F4.out.cell 2
  have r2 := F4.out.fr 2
  have f3 : w4.cell? ⟨w2.heap.size, 3, none⟩ = some (.bool false) := F4.out.cell 3
  have r3 := F4.out.fr 3
  have F4s := hide (show Blk w2.heap.size 23 #[.int .i64 v1, .int .i64 v2, .bool (v3 != 0), .bool (v4 != 0), .int .i64 0, .int .i64 0, .int .i64 0, .int .i64 0, .int .i64 0, .int .i64 0] ((w4.setCell ⟨w2.heap.size, 2, none⟩ (.bool (v3 != 0))).setCell ⟨w2.heap.size, 3, none⟩ (.bool (v4 != 0))) from ((F4.out.set 2 (.bool (v3 != 0))).set 3 (.bool (v4 != 0))))
  go_wp2_with fail
  refine (int_at _ c4 c5 2 v5 (by simp) _ ((I4.out.other nF1 _).other nF1 _) K4 E5 V5).mono ?_
  rintro e w5 ⟨rfl, hc5, ho5⟩
  have R5 := hide (((R4.out.other nRF _).other nRF _).only ho5 nR)
  have B5 := hide (Below.grown ((B4.out.setCell hRF _).setCell hRF _) ho5 ((B4.out.setCell hRF _).setCell hRF _).size (by intro k hk; cases hk; omega))
  have F5 := hide (F4s.out.only ho5 nF)
  have I5 := hide hc5; clear hc5 ho5
  go_wp2_with fail
  refine (int_at _ c5 c6 2 v6 (by simp) _ I5.out K5 E6 V6).mono ?_
  rintro e w6 ⟨rfl, hc6, ho6⟩
  have R6 := hide (R5.out.only ho6 nR)
  have B6 := hide (Below.grown B5.out ho6 B5.out.size (by intro k hk; cases hk; omega))
  have F6 := hide (F5.out.only ho6 nF)
  have I6 := hide hc6; clear hc6 ho6
  go_wp2_with fail
  refine (int_at _ c6 c7 2 v7 (by simp) _ I6.out K6 E7 V7).mono ?_
  rintro e w7 ⟨rfl, hc7, ho7⟩
  have R7 := hide (R6.out.only ho7 nR)
  have B7 := hide (Below.grown B6.out ho7 B6.out.size (by intro k hk; cases hk; omega))
  have F7 := hide (F6.out.only ho7 nF)
  have I7 := hide hc7; clear hc7 ho7
  have f4 : w7.cell? ⟨w2.heap.size, 4, none⟩ = some (.int .i64 0) := F7.out.cell 4
  have r4 := F7.out.fr 4
  have f5 : w7.cell? ⟨w2.heap.size, 5, none⟩ = some (.int .i64 0) := F7.out.cell 5
  have r5 := F7.out.fr 5
  have f6 : w7.cell? ⟨w2.heap.size, 6, none⟩ = some (.int .i64 0) := F7.out.cell 6
  have r6 := F7.out.fr 6
  have F7s := hide (show Blk w2.heap.size 23 #[.int .i64 v1, .int .i64 v2, .bool (v3 != 0), .bool (v4 != 0), .int .i64 v5, .int .i64 v6, .int .i64 v7, .int .i64 0, .int .i64 0, .int .i64 0] (((w7.setCell ⟨w2.heap.size, 4, none⟩ (.int .i64 v5)).setCell ⟨w2.heap.size, 5, none⟩ (.int .i64 v6)).setCell ⟨w2.heap.size, 6, none⟩ (.int .i64 v7)) from (((F7.out.set 4 (.int .i64 v5)).set 5 (.int .i64 v6)).set 6 (.int .i64 v7)))
  go_wp2_with fail
  refine (int_at _ c7 c8 1 v8 (by simp) _ (((I7.out.other nF1 _).other nF1 _).other nF1 _) K7 E8 V8).mono ?_
  rintro e w8 ⟨rfl, hc8, ho8⟩
  have R8 := hide ((((R7.out.other nRF _).other nRF _).other nRF _).only ho8 nR)
  have B8 := hide (Below.grown (((B7.out.setCell hRF _).setCell hRF _).setCell hRF _) ho8 (((B7.out.setCell hRF _).setCell hRF _).setCell hRF _).size (by intro k hk; cases hk; omega))
  have F8 := hide (F7s.out.only ho8 nF)
  have I8 := hide hc8; clear hc8 ho8
  go_wp2_with fail
  refine (int_at _ c8 c9 1 v9 (by simp) _ I8.out K8 E9 V9).mono ?_
  rintro e w9 ⟨rfl, hc9, ho9⟩
  have R9 := hide (R8.out.only ho9 nR)
  have B9 := hide (Below.grown B8.out ho9 B8.out.size (by intro k hk; cases hk; omega))
  have F9 := hide (F8.out.only ho9 nF)
  have I9 := hide hc9; clear hc9 ho9
  go_wp2_with fail
  refine (int_at _ c9 c10 1 v10 (by simp) _ I9.out K9 E10 V10).mono ?_
  rintro e w10 ⟨rfl, hc10, ho10⟩
  have R10 := hide (R9.out.only ho10 nR)
  have B10 := hide (Below.grown B9.out ho10 B9.out.size (by intro k hk; cases hk; omega))
  have F10 := hide (F9.out.only ho10 nF)
  have I10 := hide hc10; clear hc10 ho10
  have f7 : w10.cell? ⟨w2.heap.size, 7, none⟩ = some (.int .i64 0) := F10.out.cell 7
  have r7 := F10.out.fr 7
  have f8 : w10.cell? ⟨w2.heap.size, 8, none⟩ = some (.int .i64 0) := F10.out.cell 8
  have r8 := F10.out.fr 8
  have f9 : w10.cell? ⟨w2.heap.size, 9, none⟩ = some (.int .i64 0) := F10.out.cell 9
  have r9 := F10.out.fr 9
  have F10s := hide (show Blk w2.heap.size 23 #[.int .i64 v1, .int .i64 v2, .bool (v3 != 0), .bool (v4 != 0), .int .i64 v5, .int .i64 v6, .int .i64 v7, .int .i64 v8, .int .i64 v9, .int .i64 v10] (((w10.setCell ⟨w2.heap.size, 7, none⟩ (.int .i64 v8)).setCell ⟨w2.heap.size, 8, none⟩ (.int .i64 v9)).setCell ⟨w2.heap.size, 9, none⟩ (.int .i64 v10)) from (((F10.out.set 7 (.int .i64 v8)).set 8 (.int .i64 v9)).set 9 (.int .i64 v10)))
  go_wp2_with fail
  refine (bytes_at _ c10 c11 3 v11 _ (by decide) (((I10.out.other nF1 _).other nF1 _).other nF1 _) K10 E11 V11).mono ?_
  rintro e w11 ⟨rfl, hc11, ho11⟩
  have R11 := hide ((((R10.out.other nRF _).other nRF _).other nRF _).only ho11 nR)
  have B11 := hide (Below.grown (((B10.out.setCell hRF _).setCell hRF _).setCell hRF _) ho11 (((B10.out.setCell hRF _).setCell hRF _).setCell hRF _).size (by intro k hk; cases hk; omega))
  have F11 := hide (F10s.out.only ho11 nF)
  have I11 := hide hc11; clear hc11 ho11
  have hE : Calls Try.prog 75 #[.pointer (some ⟨w.heap.size + 1, 0, none⟩)] w11 fun en w' => en = .returned (.int .i64 0) ∧ w11 = w' := by
    have := err_any _ c11 _ I11.out
    rw [hsh.out] at this
    exact this
  have HE := hide hE; clear hE
  go_wp2_with fail
  refine HE.out.mono ?_
  rintro e w12 ⟨rfl, rfl⟩
  have t0 : w11.cell? ⟨w2.heap.size, 0, none⟩ = some (.int .i64 v1) := F11.out.cell 0
  have t1 : w11.cell? ⟨w2.heap.size, 1, none⟩ = some (.int .i64 v2) := F11.out.cell 1
  have t2 : w11.cell? ⟨w2.heap.size, 2, none⟩ = some (.bool (v3 != 0)) := F11.out.cell 2
  have t3 : w11.cell? ⟨w2.heap.size, 3, none⟩ = some (.bool (v4 != 0)) := F11.out.cell 3
  have t4 : w11.cell? ⟨w2.heap.size, 4, none⟩ = some (.int .i64 v5) := F11.out.cell 4
  have t5 : w11.cell? ⟨w2.heap.size, 5, none⟩ = some (.int .i64 v6) := F11.out.cell 5
  have t6 : w11.cell? ⟨w2.heap.size, 6, none⟩ = some (.int .i64 v7) := F11.out.cell 6
  have t7 : w11.cell? ⟨w2.heap.size, 7, none⟩ = some (.int .i64 v8) := F11.out.cell 7
  have t8 : w11.cell? ⟨w2.heap.size, 8, none⟩ = some (.int .i64 v9) := F11.out.cell 8
  have t9 : w11.cell? ⟨w2.heap.size, 9, none⟩ = some (.int .i64 v10) := F11.out.cell 9
  go_wp2_with fail
  refine (HV.out _).mono ?_
  rintro e w12 ⟨rfl, hb12⟩
  have R12 := hide (R11.out.below hb12)
  have F12 := hide (F11.out.below hb12)
  have B12 := hide (B11.out.trans (hb12.mono B11.out.size))
  clear t0 t1 t2 t3 t4 t5 t6 t7 t8 t9
  have g0 : w12.cell? ⟨w.heap.size, 0, none⟩ = some (.int .i64 0) := R12.out.cell 0
  have q0 : w12.frozen? ⟨w.heap.size, 0, none⟩ = false := R12.out.fr 0
  have g1 : w12.cell? ⟨w.heap.size, 1, none⟩ = some (.int .i64 0) := R12.out.cell 1
  have q1 : w12.frozen? ⟨w.heap.size, 1, none⟩ = false := R12.out.fr 1
  have g2 : w12.cell? ⟨w.heap.size, 2, none⟩ = some (.bool false) := R12.out.cell 2
  have q2 : w12.frozen? ⟨w.heap.size, 2, none⟩ = false := R12.out.fr 2
  have g3 : w12.cell? ⟨w.heap.size, 3, none⟩ = some (.bool false) := R12.out.cell 3
  have q3 : w12.frozen? ⟨w.heap.size, 3, none⟩ = false := R12.out.fr 3
  have g4 : w12.cell? ⟨w.heap.size, 4, none⟩ = some (.int .i64 0) := R12.out.cell 4
  have q4 : w12.frozen? ⟨w.heap.size, 4, none⟩ = false := R12.out.fr 4
  have g5 : w12.cell? ⟨w.heap.size, 5, none⟩ = some (.int .i64 0) := R12.out.cell 5
  have q5 : w12.frozen? ⟨w.heap.size, 5, none⟩ = false := R12.out.fr 5
  have g6 : w12.cell? ⟨w.heap.size, 6, none⟩ = some (.int .i64 0) := R12.out.cell 6
  have q6 : w12.frozen? ⟨w.heap.size, 6, none⟩ = false := R12.out.fr 6
  have g7 : w12.cell? ⟨w.heap.size, 7, none⟩ = some (.int .i64 0) := R12.out.cell 7
  have q7 : w12.frozen? ⟨w.heap.size, 7, none⟩ = false := R12.out.fr 7
  have g8 : w12.cell? ⟨w.heap.size, 8, none⟩ = some (.int .i64 0) := R12.out.cell 8
  have q8 : w12.frozen? ⟨w.heap.size, 8, none⟩ = false := R12.out.fr 8
  have g9 : w12.cell? ⟨w.heap.size, 9, none⟩ = some (.int .i64 0) := R12.out.cell 9
  have q9 : w12.frozen? ⟨w.heap.size, 9, none⟩ = false := R12.out.fr 9
  have t0 : w12.cell? ⟨w2.heap.size, 0, none⟩ = some (.int .i64 v1) := F12.out.cell 0
  have t1 : w12.cell? ⟨w2.heap.size, 1, none⟩ = some (.int .i64 v2) := F12.out.cell 1
  have t2 : w12.cell? ⟨w2.heap.size, 2, none⟩ = some (.bool (v3 != 0)) := F12.out.cell 2
  have t3 : w12.cell? ⟨w2.heap.size, 3, none⟩ = some (.bool (v4 != 0)) := F12.out.cell 3
  have t4 : w12.cell? ⟨w2.heap.size, 4, none⟩ = some (.int .i64 v5) := F12.out.cell 4
  have t5 : w12.cell? ⟨w2.heap.size, 5, none⟩ = some (.int .i64 v6) := F12.out.cell 5
  have t6 : w12.cell? ⟨w2.heap.size, 6, none⟩ = some (.int .i64 v7) := F12.out.cell 6
  have t7 : w12.cell? ⟨w2.heap.size, 7, none⟩ = some (.int .i64 v8) := F12.out.cell 7
  have t8 : w12.cell? ⟨w2.heap.size, 8, none⟩ = some (.int .i64 v9) := F12.out.cell 8
  have t9 : w12.cell? ⟨w2.heap.size, 9, none⟩ = some (.int .i64 v10) := F12.out.cell 9
  go_wp2_with fail
  have RF0 := hide (show Blk w.heap.size 23 #[.int .i64 v1, .int .i64 0, .bool false, .bool false, .int .i64 0, .int .i64 0, .int .i64 0, .int .i64 0, .int .i64 0, .int .i64 0] _ from R12.out.set 0 (.int .i64 v1))
  have RF1 := hide (show Blk w.heap.size 23 #[.int .i64 v1, .int .i64 v2, .bool false, .bool false, .int .i64 0, .int .i64 0, .int .i64 0, .int .i64 0, .int .i64 0, .int .i64 0] _ from RF0.out.set 1 (.int .i64 v2))
  have RF2 := hide (show Blk w.heap.size 23 #[.int .i64 v1, .int .i64 v2, .bool (v3 != 0), .bool false, .int .i64 0, .int .i64 0, .int .i64 0, .int .i64 0, .int .i64 0, .int .i64 0] _ from RF1.out.set 2 (.bool (v3 != 0)))
  have RF3 := hide (show Blk w.heap.size 23 #[.int .i64 v1, .int .i64 v2, .bool (v3 != 0), .bool (v4 != 0), .int .i64 0, .int .i64 0, .int .i64 0, .int .i64 0, .int .i64 0, .int .i64 0] _ from RF2.out.set 3 (.bool (v4 != 0)))
  have RF4 := hide (show Blk w.heap.size 23 #[.int .i64 v1, .int .i64 v2, .bool (v3 != 0), .bool (v4 != 0), .int .i64 v5, .int .i64 0, .int .i64 0, .int .i64 0, .int .i64 0, .int .i64 0] _ from RF3.out.set 4 (.int .i64 v5))
  have RF5 := hide (show Blk w.heap.size 23 #[.int .i64 v1, .int .i64 v2, .bool (v3 != 0), .bool (v4 != 0), .int .i64 v5, .int .i64 v6, .int .i64 0, .int .i64 0, .int .i64 0, .int .i64 0] _ from RF4.out.set 5 (.int .i64 v6))
  have RF6 := hide (show Blk w.heap.size 23 #[.int .i64 v1, .int .i64 v2, .bool (v3 != 0), .bool (v4 != 0), .int .i64 v5, .int .i64 v6, .int .i64 v7, .int .i64 0, .int .i64 0, .int .i64 0] _ from RF5.out.set 6 (.int .i64 v7))
  have RF7 := hide (show Blk w.heap.size 23 #[.int .i64 v1, .int .i64 v2, .bool (v3 != 0), .bool (v4 != 0), .int .i64 v5, .int .i64 v6, .int .i64 v7, .int .i64 v8, .int .i64 0, .int .i64 0] _ from RF6.out.set 7 (.int .i64 v8))
  have RF8 := hide (show Blk w.heap.size 23 #[.int .i64 v1, .int .i64 v2, .bool (v3 != 0), .bool (v4 != 0), .int .i64 v5, .int .i64 v6, .int .i64 v7, .int .i64 v8, .int .i64 v9, .int .i64 0] _ from RF7.out.set 8 (.int .i64 v9))
  have RF9 := hide (show Blk w.heap.size 23 #[.int .i64 v1, .int .i64 v2, .bool (v3 != 0), .bool (v4 != 0), .int .i64 v5, .int .i64 v6, .int .i64 v7, .int .i64 v8, .int .i64 v9, .int .i64 v10] _ from RF8.out.set 9 (.int .i64 v10))
  rw [hR.out]
  exact bodyPost_ret (results_at Try.results15 _ rfl RF9.out Try.underlying23 rfl (by kernel_rfl)) rfl ⟨rfl, ((((((((((B12.out.setCell (p := ⟨w.heap.size, 0, none⟩) (Nat.le_refl _) _).setCell (p := ⟨w.heap.size, 1, none⟩) (Nat.le_refl _) _).setCell (p := ⟨w.heap.size, 2, none⟩) (Nat.le_refl _) _).setCell (p := ⟨w.heap.size, 3, none⟩) (Nat.le_refl _) _).setCell (p := ⟨w.heap.size, 4, none⟩) (Nat.le_refl _) _).setCell (p := ⟨w.heap.size, 5, none⟩) (Nat.le_refl _) _).setCell (p := ⟨w.heap.size, 6, none⟩) (Nat.le_refl _) _).setCell (p := ⟨w.heap.size, 7, none⟩) (Nat.le_refl _) _).setCell (p := ⟨w.heap.size, 8, none⟩) (Nat.le_refl _) _).setCell (p := ⟨w.heap.size, 9, none⟩) (Nat.le_refl _) _)⟩

set_option maxHeartbeats 3200000 in
set_option maxRecDepth 100000 in
theorem parse_no (s : ByteArray) (w : World) (hs : s.size ≤ 1099511627776) (h16 : 16 ≤ s.size) (hval : validB (rawF s) = false) :
    Calls Try.prog 15 #[.string s] w fun e w' => e = .returned (.tuple #[.agg #[.int .i64 0, .int .i64 0, .bool false, .bool false, .int .i64 0, .int .i64 0, .int .i64 0, .int .i64 0, .int .i64 0, .int .i64 0], .int .i64 130]) ∧ Below w.heap.size w w' := by
  obtain ⟨c0, hc0⟩ : ∃ c : Cu, c = ⟨s, 0, 0⟩ := ⟨_, rfl⟩
  have K0 : Hid c0.ok := by rw [hc0]; exact ⟨Nat.zero_le _, hs⟩
  obtain ⟨c1, hc1⟩ : ∃ c : Cu, c = ⟨s, 1, 0⟩ := ⟨_, rfl⟩
  obtain ⟨v1, hv1⟩ : ∃ v, v = byteV s 0 := ⟨_, rfl⟩
  have st1 := Cu.step (s := s) (i := 0) (n := 1) (by omega)
  have E1 := hide (show c1 = c0.bytes 1 by rw [hc0, hc1]; exact st1.1.symm)
  have V1 := hide (show v1 = c0.int 1 by rw [hc0, hv1]; exact st1.2.2.symm)
  have K1 := ok_at E1 K0
  clear st1
  obtain ⟨c2, hc2⟩ : ∃ c : Cu, c = ⟨s, 2, 0⟩ := ⟨_, rfl⟩
  obtain ⟨v2, hv2⟩ : ∃ v, v = byteV s 1 := ⟨_, rfl⟩
  have st2 := Cu.step (s := s) (i := 1) (n := 1) (by omega)
  have E2 := hide (show c2 = c1.bytes 1 by rw [hc1, hc2]; exact st2.1.symm)
  have V2 := hide (show v2 = c1.int 1 by rw [hc1, hv2]; exact st2.2.2.symm)
  have K2 := ok_at E2 K1
  clear st2
  obtain ⟨c3, hc3⟩ : ∃ c : Cu, c = ⟨s, 3, 0⟩ := ⟨_, rfl⟩
  obtain ⟨v3, hv3⟩ : ∃ v, v = byteV s 2 := ⟨_, rfl⟩
  have st3 := Cu.step (s := s) (i := 2) (n := 1) (by omega)
  have E3 := hide (show c3 = c2.bytes 1 by rw [hc2, hc3]; exact st3.1.symm)
  have V3 := hide (show v3 = c2.int 1 by rw [hc2, hv3]; exact st3.2.2.symm)
  have K3 := ok_at E3 K2
  clear st3
  obtain ⟨c4, hc4⟩ : ∃ c : Cu, c = ⟨s, 4, 0⟩ := ⟨_, rfl⟩
  obtain ⟨v4, hv4⟩ : ∃ v, v = byteV s 3 := ⟨_, rfl⟩
  have st4 := Cu.step (s := s) (i := 3) (n := 1) (by omega)
  have E4 := hide (show c4 = c3.bytes 1 by rw [hc3, hc4]; exact st4.1.symm)
  have V4 := hide (show v4 = c3.int 1 by rw [hc3, hv4]; exact st4.2.2.symm)
  have K4 := ok_at E4 K3
  clear st4
  obtain ⟨c5, hc5⟩ : ∃ c : Cu, c = ⟨s, 6, 0⟩ := ⟨_, rfl⟩
  obtain ⟨v5, hv5⟩ : ∃ v, v = wordV s 4 := ⟨_, rfl⟩
  have st5 := Cu.step (s := s) (i := 4) (n := 2) (by omega)
  have E5 := hide (show c5 = c4.bytes 2 by rw [hc4, hc5]; exact st5.1.symm)
  have V5 := hide (show v5 = c4.int 2 by rw [hc4, hv5]; exact st5.2.2.symm)
  have K5 := ok_at E5 K4
  clear st5
  obtain ⟨c6, hc6⟩ : ∃ c : Cu, c = ⟨s, 8, 0⟩ := ⟨_, rfl⟩
  obtain ⟨v6, hv6⟩ : ∃ v, v = wordV s 6 := ⟨_, rfl⟩
  have st6 := Cu.step (s := s) (i := 6) (n := 2) (by omega)
  have E6 := hide (show c6 = c5.bytes 2 by rw [hc5, hc6]; exact st6.1.symm)
  have V6 := hide (show v6 = c5.int 2 by rw [hc5, hv6]; exact st6.2.2.symm)
  have K6 := ok_at E6 K5
  clear st6
  obtain ⟨c7, hc7⟩ : ∃ c : Cu, c = ⟨s, 10, 0⟩ := ⟨_, rfl⟩
  obtain ⟨v7, hv7⟩ : ∃ v, v = wordV s 8 := ⟨_, rfl⟩
  have st7 := Cu.step (s := s) (i := 8) (n := 2) (by omega)
  have E7 := hide (show c7 = c6.bytes 2 by rw [hc6, hc7]; exact st7.1.symm)
  have V7 := hide (show v7 = c6.int 2 by rw [hc6, hv7]; exact st7.2.2.symm)
  have K7 := ok_at E7 K6
  clear st7
  obtain ⟨c8, hc8⟩ : ∃ c : Cu, c = ⟨s, 11, 0⟩ := ⟨_, rfl⟩
  obtain ⟨v8, hv8⟩ : ∃ v, v = byteV s 10 := ⟨_, rfl⟩
  have st8 := Cu.step (s := s) (i := 10) (n := 1) (by omega)
  have E8 := hide (show c8 = c7.bytes 1 by rw [hc7, hc8]; exact st8.1.symm)
  have V8 := hide (show v8 = c7.int 1 by rw [hc7, hv8]; exact st8.2.2.symm)
  have K8 := ok_at E8 K7
  clear st8
  obtain ⟨c9, hc9⟩ : ∃ c : Cu, c = ⟨s, 12, 0⟩ := ⟨_, rfl⟩
  obtain ⟨v9, hv9⟩ : ∃ v, v = byteV s 11 := ⟨_, rfl⟩
  have st9 := Cu.step (s := s) (i := 11) (n := 1) (by omega)
  have E9 := hide (show c9 = c8.bytes 1 by rw [hc8, hc9]; exact st9.1.symm)
  have V9 := hide (show v9 = c8.int 1 by rw [hc8, hv9]; exact st9.2.2.symm)
  have K9 := ok_at E9 K8
  clear st9
  obtain ⟨c10, hc10⟩ : ∃ c : Cu, c = ⟨s, 13, 0⟩ := ⟨_, rfl⟩
  obtain ⟨v10, hv10⟩ : ∃ v, v = byteV s 12 := ⟨_, rfl⟩
  have st10 := Cu.step (s := s) (i := 12) (n := 1) (by omega)
  have E10 := hide (show c10 = c9.bytes 1 by rw [hc9, hc10]; exact st10.1.symm)
  have V10 := hide (show v10 = c9.int 1 by rw [hc9, hv10]; exact st10.2.2.symm)
  have K10 := ok_at E10 K9
  clear st10
  obtain ⟨c11, hc11⟩ : ∃ c : Cu, c = ⟨s, 16, 0⟩ := ⟨_, rfl⟩
  obtain ⟨v11, f11⟩ : ∃ v, v = c10.out 3 := ⟨_, rfl⟩
  have E11 := hide (show c11 = c10.bytes 3 by rw [hc10, hc11]; exact (Cu.step (s := s) (i := 13) (n := 3) (by omega)).1.symm)
  have V11 := hide f11; clear f11
  have hsh : Hid (c11.e = 0) := by rw [hc11]; exact rfl
  have hraw : rawF s = ⟨v1, v2, v3 != 0, v4 != 0, v5, v6, v7, v8, v9, v10⟩ := by rw [hv1, hv2, hv3, hv4, hv5, hv6, hv7, hv8, hv9, hv10]; rfl
  have HV : Hid (∀ w, Calls Try.prog 17 #[.agg #[.int .i64 v1, .int .i64 v2, .bool (v3 != 0), .bool (v4 != 0), .int .i64 v5, .int .i64 v6, .int .i64 v7, .int .i64 v8, .int .i64 v9, .int .i64 v10]] w fun e w' => e = .returned (.bool false) ∧ Below w.heap.size w w') := by
    intro w
    have := valid_any (rawF s) w (by rw [hraw, hv8]; exact byteV_le s 10) (by rw [hraw, hv9]; exact byteV_le s 11) (by rw [hraw, hv10]; exact byteV_le s 12)
    rw [hval, hraw] at this
    exact this
  have hR : Hid (rawF s = ⟨v1, v2, v3 != 0, v4 != 0, v5, v6, v7, v8, v9, v10⟩) := hraw
  clear hraw hval
  have C0 := hide hc0
  clear hc0 hc1 hc2 hc3 hc4 hc5 hc6 hc7 hc8 hc9 hc10 hc11 hv1 hv2 hv3 hv4 hv5 hv6 hv7 hv8 hv9 hv10
  go_enter Try.func15, Try.ntmps15
  go_wp2_with fail
  refine (new_any s _).mono ?_
  rintro e w0 ⟨rfl, hc, hb0, hz0⟩
  rw [← C0.out] at hc
  have R0 : Blk w.heap.size 23 zeroC w0 := (Blk.new w 23 zeroC).below hb0
  have B0 : Below w.heap.size w w0 := ((Below.refl _ _).alloc (Nat.le_refl _) _).trans (hb0.mono (by simp))
  simp only [World.size_alloc] at hz0
  simp only [World.size_alloc] at hc
  have nR : w.heap.size ≠ w.heap.size + 1 := by omega
  have I0 := hide hc; clear hc
  -- two bytes
  go_wp2_with fail
  refine (int_at _ c0 c1 1 v1 (by simp) _ I0.out K0 E1 V1).mono ?_
  rintro e w1 ⟨rfl, hc1, ho1⟩
  have R1 := hide (R0.only ho1 nR)
  have B1 := hide (Below.grown B0 ho1 B0.size (by intro k hk; cases hk; omega))
  have I1 := hide hc1; clear hc1 ho1
  go_wp2_with fail
  refine (int_at _ c1 c2 1 v2 (by simp) _ I1.out K1 E2 V2).mono ?_
  rintro e w2 ⟨rfl, hc2, ho2⟩
  have R2 := hide (R1.out.only ho2 nR)
  have B2 := hide (Below.grown B1.out ho2 B1.out.size (by intro k hk; cases hk; omega))
  have I2 := hide hc2; clear hc2 ho2
  have HZ : w.heap.size + 1 < w2.heap.size := I2.out.lt
  have nF1 : w.heap.size + 1 ≠ w2.heap.size := by omega
  have nF : w2.heap.size ≠ w.heap.size + 1 := by omega
  have nRF : w.heap.size ≠ w2.heap.size := by omega
  have hRF : w.heap.size ≤ w2.heap.size := by omega
  have F2 := hide (Blk.new w2 23 #[.int .i64 v1, .int .i64 v2, .bool false, .bool false, .int .i64 0, .int .i64 0, .int .i64 0, .int .i64 0, .int .i64 0, .int .i64 0])
  go_wp2_with fail
  refine (int_at _ c2 c3 1 v3 (by simp) _ (I2.out.alloc _) K2 E3 V3).mono ?_
  rintro e w3 ⟨rfl, hc3, ho3⟩
  have R3 := hide ((R2.out.alloc _).only ho3 nR)
  have B3 := hide (Below.grown (B2.out.alloc B2.out.size _) ho3 (B2.out.alloc B2.out.size _).size (by intro k hk; cases hk; omega))
  have F3 := hide (F2.out.only ho3 nF)
  have I3 := hide hc3; clear hc3 ho3
  go_wp2_with fail
  refine (int_at _ c3 c4 1 v4 (by simp) _ I3.out K3 E4 V4).mono ?_
  rintro e w4 ⟨rfl, hc4, ho4⟩
  have R4 := hide (R3.out.only ho4 nR)
  have B4 := hide (Below.grown B3.out ho4 B3.out.size (by intro k hk; cases hk; omega))
  have F4 := hide (F3.out.only ho4 nF)
  have I4 := hide hc4; clear hc4 ho4
  have f2 : w4.cell? ⟨w2.heap.size, 2, none⟩ = some (.bool false) := F4.out.cell 2
  have r2 := F4.out.fr 2
  have f3 : w4.cell? ⟨w2.heap.size, 3, none⟩ = some (.bool false) := F4.out.cell 3
  have r3 := F4.out.fr 3
  have F4s := hide (show Blk w2.heap.size 23 #[.int .i64 v1, .int .i64 v2, .bool (v3 != 0), .bool (v4 != 0), .int .i64 0, .int .i64 0, .int .i64 0, .int .i64 0, .int .i64 0, .int .i64 0] ((w4.setCell ⟨w2.heap.size, 2, none⟩ (.bool (v3 != 0))).setCell ⟨w2.heap.size, 3, none⟩ (.bool (v4 != 0))) from ((F4.out.set 2 (.bool (v3 != 0))).set 3 (.bool (v4 != 0))))
  go_wp2_with fail
  refine (int_at _ c4 c5 2 v5 (by simp) _ ((I4.out.other nF1 _).other nF1 _) K4 E5 V5).mono ?_
  rintro e w5 ⟨rfl, hc5, ho5⟩
  have R5 := hide (((R4.out.other nRF _).other nRF _).only ho5 nR)
  have B5 := hide (Below.grown ((B4.out.setCell hRF _).setCell hRF _) ho5 ((B4.out.setCell hRF _).setCell hRF _).size (by intro k hk; cases hk; omega))
  have F5 := hide (F4s.out.only ho5 nF)
  have I5 := hide hc5; clear hc5 ho5
  go_wp2_with fail
  refine (int_at _ c5 c6 2 v6 (by simp) _ I5.out K5 E6 V6).mono ?_
  rintro e w6 ⟨rfl, hc6, ho6⟩
  have R6 := hide (R5.out.only ho6 nR)
  have B6 := hide (Below.grown B5.out ho6 B5.out.size (by intro k hk; cases hk; omega))
  have F6 := hide (F5.out.only ho6 nF)
  have I6 := hide hc6; clear hc6 ho6
  go_wp2_with fail
  refine (int_at _ c6 c7 2 v7 (by simp) _ I6.out K6 E7 V7).mono ?_
  rintro e w7 ⟨rfl, hc7, ho7⟩
  have R7 := hide (R6.out.only ho7 nR)
  have B7 := hide (Below.grown B6.out ho7 B6.out.size (by intro k hk; cases hk; omega))
  have F7 := hide (F6.out.only ho7 nF)
  have I7 := hide hc7; clear hc7 ho7
  have f4 : w7.cell? ⟨w2.heap.size, 4, none⟩ = some (.int .i64 0) := F7.out.cell 4
  have r4 := F7.out.fr 4
  have f5 : w7.cell? ⟨w2.heap.size, 5, none⟩ = some (.int .i64 0) := F7.out.cell 5
  have r5 := F7.out.fr 5
  have f6 : w7.cell? ⟨w2.heap.size, 6, none⟩ = some (.int .i64 0) := F7.out.cell 6
  have r6 := F7.out.fr 6
  have F7s := hide (show Blk w2.heap.size 23 #[.int .i64 v1, .int .i64 v2, .bool (v3 != 0), .bool (v4 != 0), .int .i64 v5, .int .i64 v6, .int .i64 v7, .int .i64 0, .int .i64 0, .int .i64 0] (((w7.setCell ⟨w2.heap.size, 4, none⟩ (.int .i64 v5)).setCell ⟨w2.heap.size, 5, none⟩ (.int .i64 v6)).setCell ⟨w2.heap.size, 6, none⟩ (.int .i64 v7)) from (((F7.out.set 4 (.int .i64 v5)).set 5 (.int .i64 v6)).set 6 (.int .i64 v7)))
  go_wp2_with fail
  refine (int_at _ c7 c8 1 v8 (by simp) _ (((I7.out.other nF1 _).other nF1 _).other nF1 _) K7 E8 V8).mono ?_
  rintro e w8 ⟨rfl, hc8, ho8⟩
  have R8 := hide ((((R7.out.other nRF _).other nRF _).other nRF _).only ho8 nR)
  have B8 := hide (Below.grown (((B7.out.setCell hRF _).setCell hRF _).setCell hRF _) ho8 (((B7.out.setCell hRF _).setCell hRF _).setCell hRF _).size (by intro k hk; cases hk; omega))
  have F8 := hide (F7s.out.only ho8 nF)
  have I8 := hide hc8; clear hc8 ho8
  go_wp2_with fail
  refine (int_at _ c8 c9 1 v9 (by simp) _ I8.out K8 E9 V9).mono ?_
  rintro e w9 ⟨rfl, hc9, ho9⟩
  have R9 := hide (R8.out.only ho9 nR)
  have B9 := hide (Below.grown B8.out ho9 B8.out.size (by intro k hk; cases hk; omega))
  have F9 := hide (F8.out.only ho9 nF)
  have I9 := hide hc9; clear hc9 ho9
  go_wp2_with fail
  refine (int_at _ c9 c10 1 v10 (by simp) _ I9.out K9 E10 V10).mono ?_
  rintro e w10 ⟨rfl, hc10, ho10⟩
  have R10 := hide (R9.out.only ho10 nR)
  have B10 := hide (Below.grown B9.out ho10 B9.out.size (by intro k hk; cases hk; omega))
  have F10 := hide (F9.out.only ho10 nF)
  have I10 := hide hc10; clear hc10 ho10
  have f7 : w10.cell? ⟨w2.heap.size, 7, none⟩ = some (.int .i64 0) := F10.out.cell 7
  have r7 := F10.out.fr 7
  have f8 : w10.cell? ⟨w2.heap.size, 8, none⟩ = some (.int .i64 0) := F10.out.cell 8
  have r8 := F10.out.fr 8
  have f9 : w10.cell? ⟨w2.heap.size, 9, none⟩ = some (.int .i64 0) := F10.out.cell 9
  have r9 := F10.out.fr 9
  have F10s := hide (show Blk w2.heap.size 23 #[.int .i64 v1, .int .i64 v2, .bool (v3 != 0), .bool (v4 != 0), .int .i64 v5, .int .i64 v6, .int .i64 v7, .int .i64 v8, .int .i64 v9, .int .i64 v10] (((w10.setCell ⟨w2.heap.size, 7, none⟩ (.int .i64 v8)).setCell ⟨w2.heap.size, 8, none⟩ (.int .i64 v9)).setCell ⟨w2.heap.size, 9, none⟩ (.int .i64 v10)) from (((F10.out.set 7 (.int .i64 v8)).set 8 (.int .i64 v9)).set 9 (.int .i64 v10)))
  go_wp2_with fail
  refine (bytes_at _ c10 c11 3 v11 _ (by decide) (((I10.out.other nF1 _).other nF1 _).other nF1 _) K10 E11 V11).mono ?_
  rintro e w11 ⟨rfl, hc11, ho11⟩
  have R11 := hide ((((R10.out.other nRF _).other nRF _).other nRF _).only ho11 nR)
  have B11 := hide (Below.grown (((B10.out.setCell hRF _).setCell hRF _).setCell hRF _) ho11 (((B10.out.setCell hRF _).setCell hRF _).setCell hRF _).size (by intro k hk; cases hk; omega))
  have F11 := hide (F10s.out.only ho11 nF)
  have I11 := hide hc11; clear hc11 ho11
  have hE : Calls Try.prog 75 #[.pointer (some ⟨w.heap.size + 1, 0, none⟩)] w11 fun en w' => en = .returned (.int .i64 0) ∧ w11 = w' := by
    have := err_any _ c11 _ I11.out
    rw [hsh.out] at this
    exact this
  have HE := hide hE; clear hE
  go_wp2_with fail
  refine HE.out.mono ?_
  rintro e w12 ⟨rfl, rfl⟩
  have t0 : w11.cell? ⟨w2.heap.size, 0, none⟩ = some (.int .i64 v1) := F11.out.cell 0
  have t1 : w11.cell? ⟨w2.heap.size, 1, none⟩ = some (.int .i64 v2) := F11.out.cell 1
  have t2 : w11.cell? ⟨w2.heap.size, 2, none⟩ = some (.bool (v3 != 0)) := F11.out.cell 2
  have t3 : w11.cell? ⟨w2.heap.size, 3, none⟩ = some (.bool (v4 != 0)) := F11.out.cell 3
  have t4 : w11.cell? ⟨w2.heap.size, 4, none⟩ = some (.int .i64 v5) := F11.out.cell 4
  have t5 : w11.cell? ⟨w2.heap.size, 5, none⟩ = some (.int .i64 v6) := F11.out.cell 5
  have t6 : w11.cell? ⟨w2.heap.size, 6, none⟩ = some (.int .i64 v7) := F11.out.cell 6
  have t7 : w11.cell? ⟨w2.heap.size, 7, none⟩ = some (.int .i64 v8) := F11.out.cell 7
  have t8 : w11.cell? ⟨w2.heap.size, 8, none⟩ = some (.int .i64 v9) := F11.out.cell 8
  have t9 : w11.cell? ⟨w2.heap.size, 9, none⟩ = some (.int .i64 v10) := F11.out.cell 9
  go_wp2_with fail
  refine (HV.out _).mono ?_
  rintro e w12 ⟨rfl, hb12⟩
  have R12 := hide (R11.out.below hb12)
  have F12 := hide (F11.out.below hb12)
  have B12 := hide (B11.out.trans (hb12.mono B11.out.size))
  clear t0 t1 t2 t3 t4 t5 t6 t7 t8 t9
  have g0 : w12.cell? ⟨w.heap.size, 0, none⟩ = some (.int .i64 0) := R12.out.cell 0
  have q0 : w12.frozen? ⟨w.heap.size, 0, none⟩ = false := R12.out.fr 0
  have g1 : w12.cell? ⟨w.heap.size, 1, none⟩ = some (.int .i64 0) := R12.out.cell 1
  have q1 : w12.frozen? ⟨w.heap.size, 1, none⟩ = false := R12.out.fr 1
  have g2 : w12.cell? ⟨w.heap.size, 2, none⟩ = some (.bool false) := R12.out.cell 2
  have q2 : w12.frozen? ⟨w.heap.size, 2, none⟩ = false := R12.out.fr 2
  have g3 : w12.cell? ⟨w.heap.size, 3, none⟩ = some (.bool false) := R12.out.cell 3
  have q3 : w12.frozen? ⟨w.heap.size, 3, none⟩ = false := R12.out.fr 3
  have g4 : w12.cell? ⟨w.heap.size, 4, none⟩ = some (.int .i64 0) := R12.out.cell 4
  have q4 : w12.frozen? ⟨w.heap.size, 4, none⟩ = false := R12.out.fr 4
  have g5 : w12.cell? ⟨w.heap.size, 5, none⟩ = some (.int .i64 0) := R12.out.cell 5
  have q5 : w12.frozen? ⟨w.heap.size, 5, none⟩ = false := R12.out.fr 5
  have g6 : w12.cell? ⟨w.heap.size, 6, none⟩ = some (.int .i64 0) := R12.out.cell 6
  have q6 : w12.frozen? ⟨w.heap.size, 6, none⟩ = false := R12.out.fr 6
  have g7 : w12.cell? ⟨w.heap.size, 7, none⟩ = some (.int .i64 0) := R12.out.cell 7
  have q7 : w12.frozen? ⟨w.heap.size, 7, none⟩ = false := R12.out.fr 7
  have g8 : w12.cell? ⟨w.heap.size, 8, none⟩ = some (.int .i64 0) := R12.out.cell 8
  have q8 : w12.frozen? ⟨w.heap.size, 8, none⟩ = false := R12.out.fr 8
  have g9 : w12.cell? ⟨w.heap.size, 9, none⟩ = some (.int .i64 0) := R12.out.cell 9
  have q9 : w12.frozen? ⟨w.heap.size, 9, none⟩ = false := R12.out.fr 9
  go_wp2_with fail
  have RF0 := hide (show Blk w.heap.size 23 #[.int .i64 0, .int .i64 0, .bool false, .bool false, .int .i64 0, .int .i64 0, .int .i64 0, .int .i64 0, .int .i64 0, .int .i64 0] _ from R12.out.set 0 (.int .i64 0))
  have RF1 := hide (show Blk w.heap.size 23 #[.int .i64 0, .int .i64 0, .bool false, .bool false, .int .i64 0, .int .i64 0, .int .i64 0, .int .i64 0, .int .i64 0, .int .i64 0] _ from RF0.out.set 1 (.int .i64 0))
  have RF2 := hide (show Blk w.heap.size 23 #[.int .i64 0, .int .i64 0, .bool false, .bool false, .int .i64 0, .int .i64 0, .int .i64 0, .int .i64 0, .int .i64 0, .int .i64 0] _ from RF1.out.set 2 (.bool false))
  have RF3 := hide (show Blk w.heap.size 23 #[.int .i64 0, .int .i64 0, .bool false, .bool false, .int .i64 0, .int .i64 0, .int .i64 0, .int .i64 0, .int .i64 0, .int .i64 0] _ from RF2.out.set 3 (.bool false))
  have RF4 := hide (show Blk w.heap.size 23 #[.int .i64 0, .int .i64 0, .bool false, .bool false, .int .i64 0, .int .i64 0, .int .i64 0, .int .i64 0, .int .i64 0, .int .i64 0] _ from RF3.out.set 4 (.int .i64 0))
  have RF5 := hide (show Blk w.heap.size 23 #[.int .i64 0, .int .i64 0, .bool false, .bool false, .int .i64 0, .int .i64 0, .int .i64 0, .int .i64 0, .int .i64 0, .int .i64 0] _ from RF4.out.set 5 (.int .i64 0))
  have RF6 := hide (show Blk w.heap.size 23 #[.int .i64 0, .int .i64 0, .bool false, .bool false, .int .i64 0, .int .i64 0, .int .i64 0, .int .i64 0, .int .i64 0, .int .i64 0] _ from RF5.out.set 6 (.int .i64 0))
  have RF7 := hide (show Blk w.heap.size 23 #[.int .i64 0, .int .i64 0, .bool false, .bool false, .int .i64 0, .int .i64 0, .int .i64 0, .int .i64 0, .int .i64 0, .int .i64 0] _ from RF6.out.set 7 (.int .i64 0))
  have RF8 := hide (show Blk w.heap.size 23 #[.int .i64 0, .int .i64 0, .bool false, .bool false, .int .i64 0, .int .i64 0, .int .i64 0, .int .i64 0, .int .i64 0, .int .i64 0] _ from RF7.out.set 8 (.int .i64 0))
  have RF9 := hide (show Blk w.heap.size 23 #[.int .i64 0, .int .i64 0, .bool false, .bool false, .int .i64 0, .int .i64 0, .int .i64 0, .int .i64 0, .int .i64 0, .int .i64 0] _ from RF8.out.set 9 (.int .i64 0))
  exact bodyPost_ret (results_at Try.results15 _ rfl RF9.out Try.underlying23 rfl (by kernel_rfl)) rfl ⟨rfl, ((((((((((B12.out.setCell (p := ⟨w.heap.size, 0, none⟩) (Nat.le_refl _) _).setCell (p := ⟨w.heap.size, 1, none⟩) (Nat.le_refl _) _).setCell (p := ⟨w.heap.size, 2, none⟩) (Nat.le_refl _) _).setCell (p := ⟨w.heap.size, 3, none⟩) (Nat.le_refl _) _).setCell (p := ⟨w.heap.size, 4, none⟩) (Nat.le_refl _) _).setCell (p := ⟨w.heap.size, 5, none⟩) (Nat.le_refl _) _).setCell (p := ⟨w.heap.size, 6, none⟩) (Nat.le_refl _) _).setCell (p := ⟨w.heap.size, 7, none⟩) (Nat.le_refl _) _).setCell (p := ⟨w.heap.size, 8, none⟩) (Nat.le_refl _) _).setCell (p := ⟨w.heap.size, 9, none⟩) (Nat.le_refl _) _)⟩

/-- format.Parse. -/
theorem parse_any (s : ByteArray) (w : World) (hs : s.size ≤ 1099511627776) :
    Calls Try.prog 15 #[.string s] w fun e w' => e = .returned (.tuple #[fmtV (parseF s), .int .i64 (parseE s)]) ∧ Below w.heap.size w w' := by
  by_cases h : s.size < 16
  · have e1 : parseE s = 2 := by unfold parseE; rw [if_pos h]
    have e2 : parseF s = zeroF := by unfold parseF; rw [e1]; rfl
    rw [e1, e2]
    exact parse_short s w hs h
  · cases hv : validB (rawF s) with
    | true =>
      have e1 : parseE s = 0 := by unfold parseE; rw [if_neg h, hv]; rfl
      have e2 : parseF s = rawF s := by unfold parseF; rw [e1]; rfl
      rw [e1, e2]
      exact parse_yes s w hs (by omega) hv
    | false =>
      have e1 : parseE s = 130 := by unfold parseE; rw [if_neg h, hv]; rfl
      have e2 : parseF s = zeroF := by unfold parseF; rw [e1]; rfl
      rw [e1, e2]
      exact parse_no s w hs (by omega) hv

end Go.Proofs.Ytodlpofpeoiedaa
