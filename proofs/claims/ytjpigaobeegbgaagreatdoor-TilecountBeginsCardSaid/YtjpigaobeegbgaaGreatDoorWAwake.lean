/- The walk of kingpostlaw48.awake. -/
import Derived.Test.YtjpigaobeegbgaaGreatDoorWEq
namespace Go.Proofs.YtjpigaobeegbgaaGreatDoor
open Go.RowKit Go.Shelf
theorem awake_good : GoodCourse 0 1 [(0, 1000)] where
  slo := by decide +kernel
  shi := by decide +kernel
  lt := by decide +kernel
  right := by
    refine ⟨fun k h => ?_, fun k h => ?_⟩
    · obtain rfl : k = 0 := by simp at h; omega
      exact ⟨show Small (0 : Rat) from by decide +kernel, show Small (1000 : Rat) from by decide +kernel, show (0 : Rat) < 1000 from by decide +kernel⟩
    · simp at h
  len := by decide
  sum := by decide +kernel
  dif := fun k h => by
    obtain rfl : k = 0 := by simp at h; omega
    exact show Small (1000 - 0 : Rat) from by decide +kernel
  d := by decide +kernel
  p := by decide +kernel
theorem awake_steps : GoodSteps [(0, 1000)] 300 := fun k h => by
  obtain rfl : k = 0 := by simp at h; omega
  exact ⟨show (0 : Rat) < 1000 - 0 from by decide +kernel, show Small ((1000 - 0 : Rat) / ((300 : Int) : Rat)) from by decide +kernel⟩
theorem awake_full : fullTo [(0, 1000)] 300 1 = 3 := by decide +kernel
theorem awake_cut : cutTo [(0, 1000)] 300 1 = 1 := by decide +kernel
theorem awake_to0 : StepsTo 0 1000 ((300 : Int) : Rat) 4 := ⟨by decide +kernel, by decide +kernel, by decide +kernel, by decide +kernel, by decide +kernel⟩
theorem awake_to1 : StepsTo (0 - ((300 : Int) : Rat) / 2) 1000 ((300 : Int) : Rat) 4 := ⟨by decide +kernel, by decide +kernel, by decide +kernel, by decide +kernel, by decide +kernel⟩
theorem awake_max (odd : Bool) : ∀ k, k ≤ [((0 : Rat), (1000 : Rat))].length → (offTo [(0, 1000)] 300 odd (fun _ => 4) k).length ≤ 4000 := by
  intro k hk
  have : k = 0 ∨ k = 1 := by simp at hk; omega
  rcases this with rfl | rfl <;> cases odd <;> decide +kernel
theorem awake_to (odd : Bool) : ∀ k (h : k < [((0 : Rat), (1000 : Rat))].length), StepsTo (firstAt [((0 : Rat), (1000 : Rat))][k] 300 odd) [((0 : Rat), (1000 : Rat))][k].2 ((300 : Int) : Rat) ((fun _ => 4) k) := fun k h => by
  obtain rfl : k = 0 := by simp at h; omega
  cases odd
  · exact awake_to0
  · exact awake_to1
theorem awake_even : (offTo [(0, 1000)] 300 false (fun _ => 4) 1).map numS = [⟨#[48]⟩, ⟨#[51, 48, 48]⟩, ⟨#[54, 48, 48]⟩, ⟨#[57, 48, 48]⟩] := by decide +kernel
theorem awake_odd : (offTo [(0, 1000)] 300 true (fun _ => 4) 1).map numS = [⟨#[45, 49, 53, 48]⟩, ⟨#[49, 53, 48]⟩, ⟨#[52, 53, 48]⟩, ⟨#[55, 53, 48]⟩] := by decide +kernel
theorem text_0 : ratText 0 = [48] := by decide +kernel
theorem text_1 : ratText 1 = [49] := by decide +kernel
theorem text_1000 : ratText 1000 = [49, 48, 48, 48] := by decide +kernel
theorem run_max_ok4 {P : Program} (ts : Array TypeId) (t : TypeId) (w : World) : (Builtin.max_ ts t #[.int .i64 0, .int .i64 0, .int .i64 0, .int .i64 0]).run P w = .ok (.int .i64 0) w := by
  simp [Builtin.max_, Builtin.max2]
theorem isStrs_lit4 (w : World) (a b c d : ByteArray) (t : TypeId) : IsStrs (w.alloc (.cells #[.string a, .string b, .string c, .string d] t)) (.slice (some ⟨w.heap.size, 0, none⟩) 4 4) [a, b, c, d] := by
  refine ⟨some ⟨w.heap.size, 0, none⟩, 4, rfl, fun _ => ⟨w.heap.size, 0, rfl, fun k hk => ?_⟩⟩
  have : k = 0 ∨ k = 1 ∨ k = 2 ∨ k = 3 := by simp at hk; omega
  rcases this with rfl | rfl | rfl | rfl <;> simp [go_sem]
set_option maxRecDepth 100000 in
set_option maxHeartbeats 1600000 in
theorem awake_ok (w : World) (hG : Glo w) : Calls Tryz.prog 17 #[] w (RetB (.bool true) w) := by
  have HG := Lib.hid hG
  clear hG
  go_enter Tryz.func17, Tryz.ntmps17
  go_wp2_with fail
  have hco : IsCourse ((w.alloc (.cells #[.string ⟨#[48]⟩, .string ⟨#[49, 48, 48, 48]⟩] 53)).alloc (.cells #[.string ⟨#[48]⟩, .string ⟨#[49]⟩, .slice (some ⟨w.heap.size, 0, none⟩) 1 1] 45)) (.agg #[.string ⟨#[48]⟩, .string ⟨#[49]⟩, .slice (some ⟨w.heap.size, 0, none⟩) 1 1]) 0 1 [(0, 1000)] := by
    refine ⟨_, _, _, rfl, text_0.symm, text_1.symm, _, _, rfl, by decide, fun _ => ⟨_, _, rfl, by simp; omega, fun k hk => ?_⟩⟩
    obtain rfl : k = 0 := by simp at hk; omega
    exact ⟨⟨#[48]⟩, ⟨#[49, 48, 48, 48]⟩, by simp [go_sem], by simp [go_sem], text_0.symm, text_1000.symm⟩
  have HCO := Lib.hid hco
  clear hco
  refine (Course_ok _ 300 _ (HG.out.below (by repeat (first | (with_reducible first | exact Below.refl _ _ | refine Below.setCell ?_ ?_ _ | refine below_drewN ?_ _ | refine Below.drew ?_ | refine below_alloc ?_ _ | refine below_trans'' (by assumption) ?_) | exact Nat.le_refl _ | (focus (simp; done)) | (focus (simp; omega)) | omega))) HCO.out awake_good awake_steps (by omega) (by omega)).mono ?_
  rintro e w1 ⟨rfl, hB1⟩
  have hb1 : Below w.heap.size w w1 := (by repeat (first | (with_reducible first | exact Below.refl _ _ | refine Below.setCell ?_ ?_ _ | refine below_drewN ?_ _ | refine Below.drew ?_ | refine below_alloc ?_ _ | refine below_trans'' (by assumption) ?_) | exact Nat.le_refl _ | (focus (simp; done)) | (focus (simp; omega)) | omega))
  have c0 : w1.cell? ⟨w.heap.size + 1, 0, none⟩ = some (.string ⟨#[48]⟩) := keep hB1 (by simp [go_sem])
  have c1 : w1.cell? ⟨w.heap.size + 1, 1, none⟩ = some (.string ⟨#[49]⟩) := keep hB1 (by simp [go_sem])
  have c2 : w1.cell? ⟨w.heap.size + 1, 2, none⟩ = some (.slice (some ⟨w.heap.size, 0, none⟩) 1 1) := keep hB1 (by simp [go_sem])
  have z1 := lt_of_cell c0
  have HC1 := Lib.hid (HCO.out.below hB1)
  rw [show [((0 : Rat), (1000 : Rat))].length = 1 from rfl, awake_full, awake_cut]
  clear HCO hB1
  go_wp2_with fail
  refine (Offsets_ok _ 300 false _ (HG.out.below hb1) HC1.out awake_good (by omega) (by omega) (fun _ => 4) (awake_to false) (awake_max false)).mono ?_
  rintro e w2 ⟨v2, rfl, hr2, hn2, hB2⟩
  have hb2 : Below w.heap.size w w2 := (by repeat (first | (with_reducible first | exact Below.refl _ _ | refine Below.setCell ?_ ?_ _ | refine below_drewN ?_ _ | refine Below.drew ?_ | refine below_alloc ?_ _ | refine below_trans'' (by assumption) ?_) | exact Nat.le_refl _ | (focus (simp; done)) | (focus (simp; omega)) | omega))
  have d0 := keep hB2 c0
  have d1 := keep hB2 c1
  have d2 := keep hB2 c2
  have z2 := lt_of_cell d0
  have HC2 := Lib.hid (HC1.out.below hB2)
  have S2 := isStrs_row hr2
  rw [show [((0 : Rat), (1000 : Rat))].length = 1 from rfl, awake_even] at S2
  have HS2 := Lib.hid S2
  clear HC1 hB2 hr2 hn2 c0 c1 c2 S2
  go_wp2_with fail
  refine (Offsets_ok _ 300 true _ (HG.out.below hb2) HC2.out awake_good (by omega) (by omega) (fun _ => 4) (awake_to true) (awake_max true)).mono ?_
  rintro e w3 ⟨v3, rfl, hr3, hn3, hB3⟩
  have hb3 : Below w.heap.size w w3 := (by repeat (first | (with_reducible first | exact Below.refl _ _ | refine Below.setCell ?_ ?_ _ | refine below_drewN ?_ _ | refine Below.drew ?_ | refine below_alloc ?_ _ | refine below_trans'' (by assumption) ?_) | exact Nat.le_refl _ | (focus (simp; done)) | (focus (simp; omega)) | omega))
  have S3 := isStrs_row hr3
  rw [show [((0 : Rat), (1000 : Rat))].length = 1 from rfl, awake_odd] at S3
  have HS3 := Lib.hid S3
  have HS2' := Lib.hid (HS2.out.below hB3)
  clear HC2 hr3 hn3 d0 d1 d2 S3 HS2 hB3
  go_wp2_with fail
  refine (Spare_ok 101 10 _ (by omega) (by omega) (by omega) (by omega)).mono ?_
  rintro e w4 ⟨rfl, hB4⟩
  have hb4 : Below w.heap.size w w4 := (by repeat (first | (with_reducible first | exact Below.refl _ _ | refine Below.setCell ?_ ?_ _ | refine below_drewN ?_ _ | refine Below.drew ?_ | refine below_alloc ?_ _ | refine below_trans'' (by assumption) ?_) | exact Nat.le_refl _ | (focus (simp; done)) | (focus (simp; omega)) | omega))
  have HS3' := Lib.hid (HS3.out.below hB4)
  have HS2'' := Lib.hid (HS2'.out.below hB4)
  have hmx := @run_max_ok4 Tryz.prog
  clear HS3 HS2' hB4
  go_wp2_with fail
  refine (Equal_any _ _ _ _ _ (HS2''.out.below (below_alloc (Below.refl _ _) _)) (isStrs_lit4 w4 _ _ _ _ _) (by decide)).mono ?_
  rintro e w5 ⟨rfl, hB5⟩
  have hb5 : Below w.heap.size w w5 := (by repeat (first | (with_reducible first | exact Below.refl _ _ | refine Below.setCell ?_ ?_ _ | refine below_drewN ?_ _ | refine Below.drew ?_ | refine below_alloc ?_ _ | refine below_trans'' (by assumption) ?_) | exact Nat.le_refl _ | (focus (simp; done)) | (focus (simp; omega)) | omega))
  have HS3'' := Lib.hid ((HS3'.out.below (below_alloc (Below.refl _ _) _)).below hB5)
  rw [decide_eq_true (by rfl)]
  clear HS3' HS2'' hB5
  go_wp2_with fail
  refine (Equal_any _ _ _ _ _ (HS3''.out.below (below_alloc (Below.refl _ _) _)) (isStrs_lit4 w5 _ _ _ _ _) (by decide)).mono ?_
  rintro e w6 ⟨rfl, hB6⟩
  have hb6 : Below w.heap.size w w6 := (by repeat (first | (with_reducible first | exact Below.refl _ _ | refine Below.setCell ?_ ?_ _ | refine below_drewN ?_ _ | refine Below.drew ?_ | refine below_alloc ?_ _ | refine below_trans'' (by assumption) ?_) | exact Nat.le_refl _ | (focus (simp; done)) | (focus (simp; omega)) | omega))
  rw [decide_eq_true (by rfl)]
  clear hB6
  go_wp2_with fail
  go_ret
  exact ⟨rfl, hb6⟩
end Go.Proofs.YtjpigaobeegbgaaGreatDoor
