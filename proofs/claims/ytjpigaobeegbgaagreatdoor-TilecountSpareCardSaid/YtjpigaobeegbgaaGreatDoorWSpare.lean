/- The walk of kingpostlaw48.TilecountSpare. -/
import Derived.Test.YtjpigaobeegbgaaGreatDoorWAwake
namespace Go.Proofs.YtjpigaobeegbgaaGreatDoor
open Go.RowKit Go.Shelf
theorem min_two {P : Program} (k : IntKind) (x y : Int) : ∃ m, m ≤ x ∧ m ≤ y ∧ (m = x ∨ m = y) ∧ ∀ (ts : Array TypeId) (t : TypeId) (w : World), (Builtin.min_ ts t #[.int k x, .int k y]).run P w = .ok (.int k m) w := by
  refine ⟨if y < x then y else x, ?_, ?_, ?_, fun ts t w => by simp [Builtin.min_, Builtin.min2]⟩ <;> split <;> omega
theorem max_two {P : Program} (k : IntKind) (x y : Int) : ∃ m, x ≤ m ∧ y ≤ m ∧ (m = x ∨ m = y) ∧ ∀ (ts : Array TypeId) (t : TypeId) (w : World), (Builtin.max_ ts t #[.int k x, .int k y]).run P w = .ok (.int k m) w := by
  refine ⟨if y > x then y else x, ?_, ?_, ?_, fun ts t w => by simp [Builtin.max_, Builtin.max2]⟩ <;> split <;> omega
set_option maxRecDepth 100000 in
set_option maxHeartbeats 1600000 in
theorem spare_law (n a b : Int) (w : World) (hG : Glo w) (h1 : 0 ≤ n) (h2 : n ≤ 65535) (a1 : 0 ≤ a) (a2 : a ≤ 255) (b1 : 0 ≤ b) (b2 : b ≤ 255) :
    Calls Tryz.prog 7 #[.int .u16 n, .int .u8 a, .int .u8 b] w (RetB (.bool true) w) := by
  have HG := Lib.hid hG
  clear hG
  obtain ⟨m, m1, m2, m3, hm⟩ := @min_two Tryz.prog .u8 a b
  obtain ⟨M, M1, M2, M3, hM⟩ := @max_two Tryz.prog .u8 a b
  obtain ⟨l, hl⟩ : ∃ l, m.tmod 101 = l := ⟨_, rfl⟩
  obtain ⟨h, hh⟩ : ∃ h, M.tmod 101 = h := ⟨_, rfl⟩
  have l1 : 0 ≤ l ∧ l ≤ 100 := by rw [← hl, Int.tmod_eq_emod_of_nonneg (by omega)]; omega
  have h3 : 0 ≤ h ∧ h ≤ 100 := by rw [← hh, Int.tmod_eq_emod_of_nonneg (by omega)]; omega
  obtain ⟨lo, q1, q2, q3, hlo⟩ := @min_two Tryz.prog .i64 l h
  obtain ⟨hi, r1, r2, r3, hhi⟩ := @max_two Tryz.prog .i64 l h
  have c1 : IntKind.i64.wrap m = m := IntWalk.i64_in _ (by omega)
  have c2 : IntKind.i64.wrap M = M := IntWalk.i64_in _ (by omega)
  have c3 : IntKind.i64.wrap n = n := IntWalk.i64_in _ (by omega)
  have c4 : IntKind.i64.wrap l = l := IntWalk.i64_in _ (by omega)
  have c5 : IntKind.i64.wrap h = h := IntWalk.i64_in _ (by omega)
  have p1 : 0 ≤ lo ∧ lo ≤ 100 := by omega
  have p2 : 0 ≤ hi ∧ hi ≤ 100 := by omega
  have p3 : lo ≤ hi := by omega
  clear q1 q2 q3 r1 r2 r3 l1 h3 m1 m2 m3 M1 M2 M3
  have hmx := @run_max_ok4 Tryz.prog
  have e1 : n * lo ≤ n * hi := Int.mul_le_mul_of_nonneg_left p3 h1
  have e0 : 0 ≤ n * lo := Int.mul_nonneg h1 p1.1
  have e2 : n * hi ≤ 65535 * 100 := Int.mul_le_mul h2 p2.2 p2.1 (by omega)
  have S1 := fun w => Spare_ok n lo w h1 (by omega) p1.1 p1.2
  have S2 := fun w => Spare_ok n hi w h1 (by omega) p2.1 p2.2
  have S3 := fun w => Spare_ok n 100 w h1 (by omega) (by omega) (by omega)
  have S4 := fun w => Spare_ok n 0 w h1 (by omega) (by omega) (by omega)
  rw [show n + (n * 100 + 99) / 100 = 2 * n by omega] at S3
  rw [show n + (n * 0 + 99) / 100 = n by omega] at S4
  obtain ⟨X, hX⟩ : ∃ X, n + (n * lo + 99) / 100 = X := ⟨_, rfl⟩
  obtain ⟨Y, hY⟩ : ∃ Y, n + (n * hi + 99) / 100 = Y := ⟨_, rfl⟩
  rw [hX] at S1
  rw [hY] at S2
  have g1 : n ≤ X := by omega
  have g2 : X ≤ Y := by omega
  have hcm : lo * n = n * lo := Int.mul_comm _ _
  have g3 : lo * n ≤ 100 * (X - n) := by omega
  have g4 : 100 * (X - n) < lo * n + 100 := by omega
  have gx : X ≤ 200000 := by omega
  have k1 : IntKind.i64.wrap (2 * n) = 2 * n := IntWalk.i64_in _ (by omega)
  have k2 : IntKind.i64.wrap (X - n) = X - n := IntWalk.i64_in _ (by omega)
  have k3 : IntKind.i64.wrap (100 * (X - n)) = 100 * (X - n) := IntWalk.i64_in _ (by omega)
  have k4 : IntKind.i64.wrap (lo * n) = lo * n := IntWalk.i64_in _ (by omega)
  have k5 : IntKind.i64.wrap (lo * n + 100) = lo * n + 100 := IntWalk.i64_in _ (by omega)
  have T1 := Lib.hid S1
  have T2 := Lib.hid S2
  have T3 := Lib.hid S3
  have T4 := Lib.hid S4
  clear S1 S2 S3 S4 hX hY e0 e1 e2 hcm
  go_enter Tryz.func7, Tryz.ntmps7
  go_wp2_with fail
  refine (T1.out _).mono ?_
  rintro e w1 ⟨rfl, hB1⟩
  go_wp2_with fail
  refine (T2.out _).mono ?_
  rintro e w2 ⟨rfl, hB2⟩
  go_wp2_with fail
  refine (T3.out _).mono ?_
  rintro e w3 ⟨rfl, hB3⟩
  go_wp2_with fail
  refine (T4.out _).mono ?_
  rintro e w4 ⟨rfl, hB4⟩
  have hb4 : Below w.heap.size w w4 := (by repeat (first | (with_reducible first | exact Below.refl _ _ | refine Below.setCell ?_ ?_ _ | refine below_drewN ?_ _ | refine Below.drew ?_ | refine below_alloc ?_ _ | refine below_trans'' (by assumption) ?_) | exact Nat.le_refl _ | (focus (simp; done)) | (focus (simp; omega)) | omega))
  clear hB1 hB2 hB3 hB4
  go_wp2_with fail
  refine (awake_ok _ (HG.out.below hb4)).mono ?_
  rintro e w5 ⟨rfl, hB5⟩
  have hb5 : Below w.heap.size w w5 := (by repeat (first | (with_reducible first | exact Below.refl _ _ | refine Below.setCell ?_ ?_ _ | refine below_drewN ?_ _ | refine Below.drew ?_ | refine below_alloc ?_ _ | refine below_trans'' (by assumption) ?_) | exact Nat.le_refl _ | (focus (simp; done)) | (focus (simp; omega)) | omega))
  go_wp2_with fail
  go_ret
  exact ⟨rfl, hb5⟩
end Go.Proofs.YtjpigaobeegbgaaGreatDoor
