/- The walks of tilecount.right, whole. -/
import Derived.Test.YtjpigaobeegbgaaGreatDoorWArea
namespace Go.Proofs.YtjpigaobeegbgaaGreatDoor
open Go.RowKit
/-- a course with right spans, all of whose sums are short numbers -/
structure GoodCourse (lo hi : Rat) (sp : List (Rat × Rat)) : Prop where
  slo : Small lo
  shi : Small hi
  lt : lo < hi
  right : RightSpans sp
  len : sp.length ≤ 64
  sum : ∀ k, k ≤ sp.length → Small (lenTo sp k)
  dif : ∀ k (h : k < sp.length), Small (sp[k].2 - sp[k].1)
  d : Small (hi - lo)
  p : Small ((hi - lo) * lenTo sp sp.length)
/-- a course as a value -/
def IsCourse (w : World) (c : Value) (lo hi : Rat) (sp : List (Rat × Rat)) : Prop := ∃ (s t : ByteArray) (v : Value), c = .agg #[.string s, .string t, v] ∧ s.data.toList = ratText lo ∧ t.data.toList = ratText hi ∧ IsSpans w v sp
theorem IsCourse.below {w w' : World} {c : Value} {lo hi : Rat} {sp : List (Rat × Rat)} (h : IsCourse w c lo hi sp) (hB : Below w.heap.size w w') : IsCourse w' c lo hi sp := by
  obtain ⟨s, t, v, h1, h2, h3, h4⟩ := h
  exact ⟨s, t, v, h1, h2, h3, h4.below hB⟩
set_option maxHeartbeats 400000 in
theorem tright_ok {lo hi : Rat} {sp : List (Rat × Rat)} (c : Value) (wd : Int) (w : World) (hG : Glo w) (hc : IsCourse w c lo hi sp) (hg : GoodCourse lo hi sp) (h1 : 1 ≤ wd) (h2 : wd ≤ 2000) :
    Calls Tryz.prog 45 #[c, .int .i64 wd] w (RetB (.int .i64 0) w) := by
  obtain ⟨s, t, v, rfl, hs, ht, hv⟩ := hc
  obtain ⟨a, cap, rfl, hv'⟩ := id hv
  have HS := Lib.hid hs
  have HT := Lib.hid ht
  have HV := Lib.hid hv
  have HG := Lib.hid hG
  have hg' := Lib.hid hg
  clear hs ht hv hv' hG hg
  go_enter Tryz.func45, Tryz.ntmps45
  go_wp2_with fail
  refine (area_one (w.heap.size + 1) 0 1 s t (.slice a sp.length cap) _ (HG.out.below (by repeat (first | (with_reducible first | exact Below.refl _ _ | refine Below.setCell ?_ ?_ _ | refine below_drewN ?_ _ | refine Below.drew ?_ | refine below_alloc ?_ _ | refine below_trans'' (by assumption) ?_) | exact Nat.le_refl _ | (focus (simp; done)) | (focus (simp; omega)) | omega))) (by simp [go_sem]) (by simp [go_sem]) (by simp [go_sem]) HS.out HT.out hg'.out.slo hg'.out.shi hg'.out.lt (HV.out.below (by repeat (first | (with_reducible first | exact Below.refl _ _ | refine Below.setCell ?_ ?_ _ | refine below_drewN ?_ _ | refine Below.drew ?_ | refine below_alloc ?_ _ | refine below_trans'' (by assumption) ?_) | exact Nat.le_refl _ | (focus (simp; done)) | (focus (simp; omega)) | omega))) hg'.out.right hg'.out.len hg'.out.sum hg'.out.dif hg'.out.d hg'.out.p).mono ?_
  rintro e w1 ⟨r, hr, rfl, hB⟩
  have hB' : Below w.heap.size w w1 := (by repeat (first | (with_reducible first | exact Below.refl _ _ | refine Below.setCell ?_ ?_ _ | refine below_drewN ?_ _ | refine Below.drew ?_ | refine below_alloc ?_ _ | refine below_trans'' (by assumption) ?_) | exact Nat.le_refl _ | (focus (simp; done)) | (focus (simp; omega)) | omega))
  clear hr hB
  go_wp2_with fail
  go_ret
  exact ⟨rfl, hB'⟩
set_option maxHeartbeats 400000 in
theorem twhole_any (n : Int) (w : World) (hG : Glo w) (h0 : -9223372036854775808 ≤ n) (h1 : n ≤ 9223372036854775807) :
    Calls Tryz.prog 48 #[.int .i64 n] w fun e w' => ∃ r : ByteArray, Hid (r.data.toList = ratText n) ∧ e = .returned (.string r) ∧ Below w.heap.size w w' := by
  have HG := Lib.hid hG
  clear hG
  go_enter Tryz.func48, Tryz.ntmps48
  go_wp2_with fail
  refine (Of_one n _ HG.out h0 h1).mono ?_
  rintro e w1 ⟨r, hr, rfl, hB⟩
  have HR := Lib.hid hr
  clear hr
  go_wp2_with fail
  go_ret
  exact ⟨r, HR, rfl, hB⟩
end Go.Proofs.YtjpigaobeegbgaaGreatDoor
