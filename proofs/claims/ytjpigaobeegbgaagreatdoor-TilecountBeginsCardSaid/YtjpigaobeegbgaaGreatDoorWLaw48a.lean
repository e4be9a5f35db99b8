/- The walks of kingpostlaw48.TilecountSpans and TilecountMoved. -/
import Derived.Test.YtjpigaobeegbgaaGreatDoorWSpans
namespace Go.Proofs.YtjpigaobeegbgaaGreatDoor
open Go.RowKit Go.Shelf
theorem isBytes_one (w : World) (n : Int) (t : TypeId) : IsBytes (w.alloc (.cells #[.int .u8 n] t)) (.slice (some ⟨w.heap.size, 0, none⟩) 1 1) [n] := by
  refine ⟨_, _, rfl, fun _ => ⟨_, rfl, fun k hk => ?_⟩⟩
  obtain rfl : k = 0 := by simp at hk; omega
  simp [Addr.add, go_sem]
theorem width_of {x : Int} (x1 : 0 ≤ x) (x2 : x ≤ 255) : ∃ m wd : Int, x.tmod 40 = m ∧ IntKind.i64.wrap (m + 1) = wd ∧ 1 ≤ wd ∧ wd ≤ 40 ∧ IntKind.i64.wrap m = m ∧ IntKind.i64.wrap x = x := by
  have h : x.tmod 40 = x % 40 := Int.tmod_eq_emod_of_nonneg x1
  refine ⟨_, x.tmod 40 + 1, rfl, IntWalk.i64_in _ (by omega), by omega, by omega, IntWalk.i64_in _ (by omega), IntWalk.i64_in _ (by omega)⟩
set_option maxRecDepth 100000 in
set_option maxHeartbeats 1600000 in
theorem spansLaw (a n x : Int) (w : World) (hG : Glo w) (a1 : -32768 ≤ a) (a2 : a ≤ 32767) (n1 : 0 ≤ n) (n2 : n ≤ 255) (x1 : 0 ≤ x) (x2 : x ≤ 255) :
    Calls Tryz.prog 4 #[.int .i16 a, .int .u8 n, .int .u8 x] w (RetB (.bool true) w) := by
  have HG := Lib.hid hG
  obtain ⟨m, wd, hm, hwd, wd1, wd2, hm2, hx⟩ := width_of x1 x2
  obtain ⟨F, C, hF, hC, f1, f2, c1, c2, p1, p2, p3⟩ := spans_plain (a := a) (w := wd) n1 n2 a1 a2 wd1
  have hq := spanQ_quart (a := a) (l := [n]) (by simp) (bytes_of (by intro y hy; simp at hy; omega)) a1 a2
  have HQ := Lib.hid hq
  have HF := Lib.hid hF
  have HC := Lib.hid hC
  have wn : IntKind.i64.wrap n = n := IntWalk.i64_in _ (by omega)
  have wn1 : IntKind.i64.wrap (n + 1) = n + 1 := IntWalk.i64_in _ (by omega)
  have k0 : IntKind.i64.wrap (4 * wd) = 4 * wd := IntWalk.i64_in _ (by omega)
  have k1 : IntKind.i64.wrap (F + C) = F + C := IntWalk.i64_in _ (by omega)
  have k2 : IntKind.i64.wrap (F + C - 1) = F + C - 1 := IntWalk.i64_in _ (by omega)
  have e1 : 0 ≤ 4 * wd * F := Int.mul_nonneg (by omega) f1
  have e2 : 4 * wd * (F + C) ≤ 160 * 1001 := Int.mul_le_mul (by omega) (by omega) (by omega) (by omega)
  have e3 : 4 * wd * (F + C - 1) = 4 * wd * (F + C) - 4 * wd := by rw [Int.mul_sub, Int.mul_one]
  have k3 : IntKind.i64.wrap (4 * wd * F) = 4 * wd * F := IntWalk.i64_in _ (by omega)
  have k4 : IntKind.i64.wrap (4 * wd * (F + C)) = 4 * wd * (F + C) := IntWalk.i64_in _ (by omega)
  have k5 : IntKind.i64.wrap (4 * wd * (F + C - 1)) = 4 * wd * (F + C - 1) := IntWalk.i64_in _ (by omega)
  clear hG hq hF hC e1 e2 e3
  go_enter Tryz.func4, Tryz.ntmps4
  go_wp2_with fail
  refine (spans_ok a [n] _ _ (HG.out.below (by repeat (first | (with_reducible first | exact Below.refl _ _ | refine Below.setCell ?_ ?_ _ | refine below_drewN ?_ _ | refine Below.drew ?_ | refine below_alloc ?_ _ | refine below_trans'' (by assumption) ?_) | exact Nat.le_refl _ | (focus (simp; done)) | (focus (simp; omega)) | omega))) (isBytes_one _ _ _) (by simp) (bytes_of (by intro y hy; simp at hy; omega)) a1 a2).mono ?_
  rintro e w1 ⟨c, rfl, hco, hB1⟩
  have hb1 : Below w.heap.size w w1 := (by repeat (first | (with_reducible first | exact Below.refl _ _ | refine Below.setCell ?_ ?_ _ | refine below_drewN ?_ _ | refine Below.drew ?_ | refine below_alloc ?_ _ | refine below_trans'' (by assumption) ?_) | exact Nat.le_refl _ | (focus (simp; done)) | (focus (simp; omega)) | omega))
  obtain ⟨s, t, v, rfl, hs, ht, sa, scap, rfl, hv, hv'⟩ := id hco
  have HCO := Lib.hid hco
  clear hs ht hco hB1 hv hv'
  go_wp2_with fail
  refine (Course_ok _ wd _ ?_ ?_ HQ.out.good (HQ.out.steps wd1 (by omega)) wd1 (by omega)).mono ?_
  · exact HG.out.below (by repeat (first | (with_reducible first | exact Below.refl _ _ | refine Below.setCell ?_ ?_ _ | refine below_drewN ?_ _ | refine Below.drew ?_ | refine below_alloc ?_ _ | refine below_trans'' (by assumption) ?_) | exact Nat.le_refl _ | (focus (simp; done)) | (focus (simp; omega)) | omega))
  · exact HCO.out.below (by repeat (first | (with_reducible first | exact Below.refl _ _ | refine Below.setCell ?_ ?_ _ | refine below_drewN ?_ _ | refine Below.drew ?_ | refine below_alloc ?_ _ | refine below_trans'' (by assumption) ?_) | exact Nat.le_refl _ | (focus (simp; done)) | (focus (simp; omega)) | omega))
  rintro e w2 ⟨rfl, hB2⟩
  rw [show (spanQ a [n]).length = 1 from rfl, HF.out, HC.out]
  have hb2 : Below w.heap.size w w2 := (by repeat (first | (with_reducible first | exact Below.refl _ _ | refine Below.setCell ?_ ?_ _ | refine below_drewN ?_ _ | refine Below.drew ?_ | refine below_alloc ?_ _ | refine below_trans'' (by assumption) ?_) | exact Nat.le_refl _ | (focus (simp; done)) | (focus (simp; omega)) | omega))
  clear hB2 HCO hb1
  go_wp2_with fail
  refine (awake_ok _ (HG.out.below (by repeat (first | (with_reducible first | exact Below.refl _ _ | refine Below.setCell ?_ ?_ _ | refine below_drewN ?_ _ | refine Below.drew ?_ | refine below_alloc ?_ _ | refine below_trans'' (by assumption) ?_) | exact Nat.le_refl _ | (focus (simp; done)) | (focus (simp; omega)) | omega)))).mono ?_
  rintro e w3 ⟨rfl, hB3⟩
  have hb3 : Below w.heap.size w w3 := (by repeat (first | (with_reducible first | exact Below.refl _ _ | refine Below.setCell ?_ ?_ _ | refine below_drewN ?_ _ | refine Below.drew ?_ | refine below_alloc ?_ _ | refine below_trans'' (by assumption) ?_) | exact Nat.le_refl _ | (focus (simp; done)) | (focus (simp; omega)) | omega))
  clear hB3 hb2
  go_wp2_with fail
  go_ret
  exact ⟨rfl, hb3⟩
set_option maxRecDepth 100000 in
set_option maxHeartbeats 3200000 in
theorem movedLaw (a b x : Int) (l : List Int) (v : Value) (w : World) (hG : Glo w) (hv : IsBytes w v l) (hl : Bytes l) (a1 : -32768 ≤ a) (a2 : a ≤ 32767) (b1 : -32768 ≤ b) (b2 : b ≤ 32767) (x1 : 0 ≤ x) (x2 : x ≤ 255) :
    Calls Tryz.prog 6 #[.int .i16 a, .int .i16 b, v, .int .u8 x] w (RetB (.bool true) w) := by
  have HG := Lib.hid hG
  have HV := Lib.hid hv
  obtain ⟨ad, cap, rfl, hcells⟩ := hv
  clear hcells
  by_cases h5 : l.length ≤ 5
  · have h5' : decide ((5 : Int) < (l.length : Int)) = false := by simp; omega
    obtain ⟨m, wd, hm, hwd, wd1, wd2, hm2, hx⟩ := width_of x1 x2
    have hqa := spanQ_quart (a := a) h5 hl a1 a2
    have hqb := spanQ_quart (a := b) h5 hl b1 b2
    obtain ⟨p1, p2, p3⟩ := moved_plain (w := wd) h5 hl a1 a2 b1 b2 wd1
    have HQA := Lib.hid hqa
    have HQB := Lib.hid hqb
    have P1 := Lib.hid p1
    have P2 := Lib.hid p2
    have P3 := Lib.hid (p3 true)
    have HL := Lib.hid hl
    have hmx := @run_max_ok4 Tryz.prog
    clear hG hqa hqb p1 p2 p3 hl
    go_enter Tryz.func6, Tryz.ntmps6
    go_wp2_with fail
    refine (spans_ok a l _ _ (HG.out.below (by repeat (first | (with_reducible first | exact Below.refl _ _ | refine Below.setCell ?_ ?_ _ | refine below_drewN ?_ _ | refine Below.drew ?_ | refine below_alloc ?_ _ | refine below_trans'' (by assumption) ?_) | exact Nat.le_refl _ | (focus (simp; done)) | (focus (simp; omega)) | omega))) (HV.out.below (by repeat (first | (with_reducible first | exact Below.refl _ _ | refine Below.setCell ?_ ?_ _ | refine below_drewN ?_ _ | refine Below.drew ?_ | refine below_alloc ?_ _ | refine below_trans'' (by assumption) ?_) | exact Nat.le_refl _ | (focus (simp; done)) | (focus (simp; omega)) | omega))) h5 HL.out a1 a2).mono ?_
    rintro e w1 ⟨c, rfl, hco, hB1⟩
    have hb1 : Below w.heap.size w w1 := (by repeat (first | (with_reducible first | exact Below.refl _ _ | refine Below.setCell ?_ ?_ _ | refine below_drewN ?_ _ | refine Below.drew ?_ | refine below_alloc ?_ _ | refine below_trans'' (by assumption) ?_) | exact Nat.le_refl _ | (focus (simp; done)) | (focus (simp; omega)) | omega))
    have HCO := Lib.hid hco
    clear hco hB1
    go_wp2_with fail
    refine (Course_ok _ wd _ ?_ ?_ HQA.out.good (HQA.out.steps wd1 (by omega)) wd1 (by omega)).mono ?_
    · exact HG.out.below (by repeat (first | (with_reducible first | exact Below.refl _ _ | refine Below.setCell ?_ ?_ _ | refine below_drewN ?_ _ | refine Below.drew ?_ | refine below_alloc ?_ _ | refine below_trans'' (by assumption) ?_) | exact Nat.le_refl _ | (focus (simp; done)) | (focus (simp; omega)) | omega))
    · exact HCO.out.below (by repeat (first | (with_reducible first | exact Below.refl _ _ | refine Below.setCell ?_ ?_ _ | refine below_drewN ?_ _ | refine Below.drew ?_ | refine below_alloc ?_ _ | refine below_trans'' (by assumption) ?_) | exact Nat.le_refl _ | (focus (simp; done)) | (focus (simp; omega)) | omega))
    rintro e w2 ⟨rfl, hB2⟩
    rw [spanQ_length]
    have hb2 : Below w.heap.size w w2 := (by repeat (first | (with_reducible first | exact Below.refl _ _ | refine Below.setCell ?_ ?_ _ | refine below_drewN ?_ _ | refine Below.drew ?_ | refine below_alloc ?_ _ | refine below_trans'' (by assumption) ?_) | exact Nat.le_refl _ | (focus (simp; done)) | (focus (simp; omega)) | omega))
    clear hB2 hb1 HCO
    go_wp2_with fail
    refine (spans_ok b l _ _ (HG.out.below (by repeat (first | (with_reducible first | exact Below.refl _ _ | refine Below.setCell ?_ ?_ _ | refine below_drewN ?_ _ | refine Below.drew ?_ | refine below_alloc ?_ _ | refine below_trans'' (by assumption) ?_) | exact Nat.le_refl _ | (focus (simp; done)) | (focus (simp; omega)) | omega))) (HV.out.below (by repeat (first | (with_reducible first | exact Below.refl _ _ | refine Below.setCell ?_ ?_ _ | refine below_drewN ?_ _ | refine Below.drew ?_ | refine below_alloc ?_ _ | refine below_trans'' (by assumption) ?_) | exact Nat.le_refl _ | (focus (simp; done)) | (focus (simp; omega)) | omega))) h5 HL.out b1 b2).mono ?_
    rintro e w3 ⟨c, rfl, hco, hB3⟩
    have hb3 : Below w.heap.size w w3 := (by repeat (first | (with_reducible first | exact Below.refl _ _ | refine Below.setCell ?_ ?_ _ | refine below_drewN ?_ _ | refine Below.drew ?_ | refine below_alloc ?_ _ | refine below_trans'' (by assumption) ?_) | exact Nat.le_refl _ | (focus (simp; done)) | (focus (simp; omega)) | omega))
    have HCO := Lib.hid hco
    clear hco hB3 hb2
    go_wp2_with fail
    refine (Course_ok _ wd _ ?_ ?_ HQB.out.good (HQB.out.steps wd1 (by omega)) wd1 (by omega)).mono ?_
    · exact HG.out.below (by repeat (first | (with_reducible first | exact Below.refl _ _ | refine Below.setCell ?_ ?_ _ | refine below_drewN ?_ _ | refine Below.drew ?_ | refine below_alloc ?_ _ | refine below_trans'' (by assumption) ?_) | exact Nat.le_refl _ | (focus (simp; done)) | (focus (simp; omega)) | omega))
    · exact HCO.out.below (by repeat (first | (with_reducible first | exact Below.refl _ _ | refine Below.setCell ?_ ?_ _ | refine below_drewN ?_ _ | refine Below.drew ?_ | refine below_alloc ?_ _ | refine below_trans'' (by assumption) ?_) | exact Nat.le_refl _ | (focus (simp; done)) | (focus (simp; omega)) | omega))
    rintro e w4 ⟨rfl, hB4⟩
    rw [spanQ_length, ← P1.out, ← P2.out]
    generalize fullTo (spanQ a l) wd l.length = F at *
    generalize cutTo (spanQ a l) wd l.length = C at *
    have hb4 : Below w.heap.size w w4 := (by repeat (first | (with_reducible first | exact Below.refl _ _ | refine Below.setCell ?_ ?_ _ | refine below_drewN ?_ _ | refine Below.drew ?_ | refine below_alloc ?_ _ | refine below_trans'' (by assumption) ?_) | exact Nat.le_refl _ | (focus (simp; done)) | (focus (simp; omega)) | omega))
    clear hB4 hb3 HCO P1 P2
    go_wp2_with fail
    refine (spans_ok a l _ _ (HG.out.below (by repeat (first | (with_reducible first | exact Below.refl _ _ | refine Below.setCell ?_ ?_ _ | refine below_drewN ?_ _ | refine Below.drew ?_ | refine below_alloc ?_ _ | refine below_trans'' (by assumption) ?_) | exact Nat.le_refl _ | (focus (simp; done)) | (focus (simp; omega)) | omega))) (HV.out.below (by repeat (first | (with_reducible first | exact Below.refl _ _ | refine Below.setCell ?_ ?_ _ | refine below_drewN ?_ _ | refine Below.drew ?_ | refine below_alloc ?_ _ | refine below_trans'' (by assumption) ?_) | exact Nat.le_refl _ | (focus (simp; done)) | (focus (simp; omega)) | omega))) h5 HL.out a1 a2).mono ?_
    rintro e w5 ⟨c, rfl, hco, hB5⟩
    have hb5 : Below w.heap.size w w5 := (by repeat (first | (with_reducible first | exact Below.refl _ _ | refine Below.setCell ?_ ?_ _ | refine below_drewN ?_ _ | refine Below.drew ?_ | refine below_alloc ?_ _ | refine below_trans'' (by assumption) ?_) | exact Nat.le_refl _ | (focus (simp; done)) | (focus (simp; omega)) | omega))
    have HCO := Lib.hid hco
    clear hco hB5 hb4
    go_wp2_with fail
    refine (Offsets_ok _ wd true _ ?_ ?_ HQA.out.good wd1 (by omega) (begins (nAt l) wd true) (HQA.out.stepsTo wd1 (by omega) true) (HQA.out.offMax' wd1 true)).mono ?_
    · exact HG.out.below (by repeat (first | (with_reducible first | exact Below.refl _ _ | refine Below.setCell ?_ ?_ _ | refine below_drewN ?_ _ | refine Below.drew ?_ | refine below_alloc ?_ _ | refine below_trans'' (by assumption) ?_) | exact Nat.le_refl _ | (focus (simp; done)) | (focus (simp; omega)) | omega))
    · exact HCO.out.below (by repeat (first | (with_reducible first | exact Below.refl _ _ | refine Below.setCell ?_ ?_ _ | refine below_drewN ?_ _ | refine Below.drew ?_ | refine below_alloc ?_ _ | refine below_trans'' (by assumption) ?_) | exact Nat.le_refl _ | (focus (simp; done)) | (focus (simp; omega)) | omega))
    rintro e w6 ⟨v6, rfl, hr6, hn6, hB6⟩
    obtain ⟨oa, oc, rfl⟩ : ∃ oa oc, v6 = .slice oa (offTo (spanQ a l) wd true (begins (nAt l) wd true) (spanQ a l).length).length oc := by
      rcases hr6.2 with ⟨h, hk⟩ | ⟨g, cap, cur, h, _⟩
      · exact ⟨none, 0, by rw [h, hk]⟩
      · exact ⟨_, _, h⟩
    have hb6 : Below w.heap.size w w6 := (by repeat (first | (with_reducible first | exact Below.refl _ _ | refine Below.setCell ?_ ?_ _ | refine below_drewN ?_ _ | refine Below.drew ?_ | refine below_alloc ?_ _ | refine below_trans'' (by assumption) ?_) | exact Nat.le_refl _ | (focus (simp; done)) | (focus (simp; omega)) | omega))
    clear hr6 hn6 hB6 hb5 HCO
    rw [spanQ_length]
    go_wp2_with fail
    refine (spans_ok b l _ _ (HG.out.below (by repeat (first | (with_reducible first | exact Below.refl _ _ | refine Below.setCell ?_ ?_ _ | refine below_drewN ?_ _ | refine Below.drew ?_ | refine below_alloc ?_ _ | refine below_trans'' (by assumption) ?_) | exact Nat.le_refl _ | (focus (simp; done)) | (focus (simp; omega)) | omega))) (HV.out.below (by repeat (first | (with_reducible first | exact Below.refl _ _ | refine Below.setCell ?_ ?_ _ | refine below_drewN ?_ _ | refine Below.drew ?_ | refine below_alloc ?_ _ | refine below_trans'' (by assumption) ?_) | exact Nat.le_refl _ | (focus (simp; done)) | (focus (simp; omega)) | omega))) h5 HL.out b1 b2).mono ?_
    rintro e w7 ⟨c, rfl, hco, hB7⟩
    have hb7 : Below w.heap.size w w7 := (by repeat (first | (with_reducible first | exact Below.refl _ _ | refine Below.setCell ?_ ?_ _ | refine below_drewN ?_ _ | refine Below.drew ?_ | refine below_alloc ?_ _ | refine below_trans'' (by assumption) ?_) | exact Nat.le_refl _ | (focus (simp; done)) | (focus (simp; omega)) | omega))
    have HCO := Lib.hid hco
    clear hco hB7 hb6
    go_wp2_with fail
    refine (Offsets_ok _ wd true _ ?_ ?_ HQB.out.good wd1 (by omega) (begins (nAt l) wd true) (HQB.out.stepsTo wd1 (by omega) true) (HQB.out.offMax' wd1 true)).mono ?_
    · exact HG.out.below (by repeat (first | (with_reducible first | exact Below.refl _ _ | refine Below.setCell ?_ ?_ _ | refine below_drewN ?_ _ | refine Below.drew ?_ | refine below_alloc ?_ _ | refine below_trans'' (by assumption) ?_) | exact Nat.le_refl _ | (focus (simp; done)) | (focus (simp; omega)) | omega))
    · exact HCO.out.below (by repeat (first | (with_reducible first | exact Below.refl _ _ | refine Below.setCell ?_ ?_ _ | refine below_drewN ?_ _ | refine Below.drew ?_ | refine below_alloc ?_ _ | refine below_trans'' (by assumption) ?_) | exact Nat.le_refl _ | (focus (simp; done)) | (focus (simp; omega)) | omega))
    rintro e w8 ⟨v8, rfl, hr8, hn8, hB8⟩
    obtain ⟨ob, od, rfl⟩ : ∃ oa oc, v8 = .slice oa (offTo (spanQ b l) wd true (begins (nAt l) wd true) (spanQ b l).length).length oc := by
      rcases hr8.2 with ⟨h, hk⟩ | ⟨g, cap, cur, h, _⟩
      · exact ⟨none, 0, by rw [h, hk]⟩
      · exact ⟨_, _, h⟩
    have hb8 : Below w.heap.size w w8 := (by repeat (first | (with_reducible first | exact Below.refl _ _ | refine Below.setCell ?_ ?_ _ | refine below_drewN ?_ _ | refine Below.drew ?_ | refine below_alloc ?_ _ | refine below_trans'' (by assumption) ?_) | exact Nat.le_refl _ | (focus (simp; done)) | (focus (simp; omega)) | omega))
    clear hr8 hn8 hB8 hb7 HCO
    rw [spanQ_length, ← P3.out]
    generalize (offTo (spanQ a l) wd true (begins (nAt l) wd true) l.length).length = L at *
    clear P3
    go_wp2_with fail
    refine (awake_ok _ (HG.out.below (by repeat (first | (with_reducible first | exact Below.refl _ _ | refine Below.setCell ?_ ?_ _ | refine below_drewN ?_ _ | refine Below.drew ?_ | refine below_alloc ?_ _ | refine below_trans'' (by assumption) ?_) | exact Nat.le_refl _ | (focus (simp; done)) | (focus (simp; omega)) | omega)))).mono ?_
    rintro e w9 ⟨rfl, hB9⟩
    have hb9 : Below w.heap.size w w9 := (by repeat (first | (with_reducible first | exact Below.refl _ _ | refine Below.setCell ?_ ?_ _ | refine below_drewN ?_ _ | refine Below.drew ?_ | refine below_alloc ?_ _ | refine below_trans'' (by assumption) ?_) | exact Nat.le_refl _ | (focus (simp; done)) | (focus (simp; omega)) | omega))
    clear hB9 hb8
    go_wp2_with fail
    go_ret
    exact ⟨rfl, hb9⟩
  · have h5' : decide ((5 : Int) < (l.length : Int)) = true := by simp; omega
    have h5'' : (5 : Int) < (l.length : Int) := by omega
    clear hG h5
    go_enter Tryz.func6, Tryz.ntmps6
    go_wp2_with fail
    refine (awake_ok _ HG.out).mono ?_
    rintro e w1 ⟨rfl, hB1⟩
    go_wp2_with fail
    go_ret
    exact ⟨rfl, hB1⟩
end Go.Proofs.YtjpigaobeegbgaaGreatDoor
