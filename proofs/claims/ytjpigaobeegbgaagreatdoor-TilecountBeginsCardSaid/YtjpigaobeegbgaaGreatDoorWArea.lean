/- The walks of course.sum, Area at one course; tilecount.right. -/
import Derived.Test.YtjpigaobeegbgaaGreatDoorWRight
namespace Go.Proofs.YtjpigaobeegbgaaGreatDoor
open Go.RowKit
/-- the length of the first spans -/
def lenTo (sp : List (Rat × Rat)) (k : Nat) : Rat := (sp.take k).foldl (fun a p => a + (p.2 - p.1)) 0
theorem lenTo_zero (sp : List (Rat × Rat)) : lenTo sp 0 = 0 := rfl
theorem lenTo_succ (sp : List (Rat × Rat)) (k : Nat) (h : k < sp.length) : lenTo sp (k + 1) = lenTo sp k + (sp[k].2 - sp[k].1) := by
  unfold lenTo
  rw [List.take_succ_eq_append_getElem h, List.foldl_append]; rfl
theorem zero_text : ratText 0 = [48] := by
  have := ratText_int 0
  rw [show ((0 : Int) : Rat) = 0 from rfl] at this
  rw [this]; exact itoa_zero
theorem small_zero : Small 0 := by unfold Small; exact ⟨by decide, by decide⟩
set_option maxHeartbeats 400000 in
theorem area1_small {lo hi l : Rat} (s t r : ByteArray) (v : Value) (w : World) (hG : Glo w) (hs : s.data.toList = ratText lo) (ht : t.data.toList = ratText hi) (hr : r.data.toList = ratText l)
    (hlo : Small lo) (hhi : Small hi) (hl : Small l) (hd : Small (hi - lo)) (hone : v.oneCell' = true) :
    Calls Tryz.prog 149 #[.agg #[.string s, .string t, v], .string r] w (RetN ((hi - lo) * l) w) := by
  have HS := Lib.hid hs
  have HT := Lib.hid ht
  have HR := Lib.hid hr
  have HG := Lib.hid hG
  clear hs ht hr hG
  go_enter Tryz.func149, Tryz.ntmps149
  go_wp2_with fail
  refine (Sub_small t s _ (HG.out.below (by repeat (first | (with_reducible first | exact Below.refl _ _ | refine Below.setCell ?_ ?_ _ | refine below_drewN ?_ _ | refine Below.drew ?_ | refine below_alloc ?_ _ | refine below_trans'' (by assumption) ?_) | exact Nat.le_refl _ | (focus (simp; done)) | (focus (simp; omega)) | omega))) HT.out hhi HS.out hlo).mono ?_
  rintro e w1 ⟨d, hdd, rfl, hB1⟩
  have HD := Lib.hid hdd
  clear hdd
  go_wp2_with fail
  refine (Mul_small d r _ (HG.out.below (by repeat (first | (with_reducible first | exact Below.refl _ _ | refine Below.setCell ?_ ?_ _ | refine below_drewN ?_ _ | refine Below.drew ?_ | refine below_alloc ?_ _ | refine below_trans'' (by assumption) ?_) | exact Nat.le_refl _ | (focus (simp; done)) | (focus (simp; omega)) | omega))) HD.out hd HR.out hl).mono ?_
  rintro e w2 ⟨m, hm, rfl, hB2⟩
  have HM := Lib.hid hm
  clear hm
  go_wp2_with fail
  go_ret2
  exact ⟨m, HM.out, rfl, (by repeat (first | (with_reducible first | exact Below.refl _ _ | refine Below.setCell ?_ ?_ _ | refine below_drewN ?_ _ | refine Below.drew ?_ | refine below_alloc ?_ _ | refine below_trans'' (by assumption) ?_) | exact Nat.le_refl _ | (focus (simp; done)) | (focus (simp; omega)) | omega))⟩
set_option maxRecDepth 100000 in
set_option maxHeartbeats 3200000 in
theorem sum_area_one {lo hi : Rat} {sp : List (Rat × Rat)} (b0 o0 cap0 : Nat) (s t : ByteArray) (v : Value) (w : World) (hG : Glo w)
    (c0 : w.cell? ⟨b0, o0, none⟩ = some (.string s)) (c1 : w.cell? ⟨b0, o0 + 1, none⟩ = some (.string t)) (c2 : w.cell? ⟨b0, o0 + 2, none⟩ = some v)
    (hs : s.data.toList = ratText lo) (ht : t.data.toList = ratText hi) (hlo : Small lo) (hhi : Small hi) (hlt : lo < hi)
    (hv : IsSpans w v sp) (hr : RightSpans sp) (hn : sp.length ≤ 64)
    (hsum : ∀ k, k ≤ sp.length → Small (lenTo sp k)) (hdif : ∀ k (h : k < sp.length), Small (sp[k].2 - sp[k].1)) (hd : Small (hi - lo)) (hp : Small ((hi - lo) * lenTo sp sp.length)) :
    Calls Tryz.prog 148 #[.slice (some ⟨b0, o0, none⟩) 1 cap0, .func (.func 149) #[] #[]] w (RetN ((hi - lo) * lenTo sp sp.length) w) := by
  have hright := right_one b0 o0 cap0 s t v w hG c0 c1 c2 hs ht hlo hhi hlt hv hr hn
  have HRI := Lib.hid hright
  have HV := Lib.hid hv
  obtain ⟨a, cap, rfl, hcap, hcells⟩ := hv
  have HS := Lib.hid hs
  have HT := Lib.hid ht
  have HG := Lib.hid hG
  have HC := Lib.hid hcells
  have HSU := Lib.hid hsum
  have HDI := Lib.hid hdif
  have HRS := Lib.hid hr
  clear hs ht hG hcells hright hsum hdif hr
  go_enter Tryz.func148, Tryz.ntmps148
  go_wp2_with fail
  refine (HRI.out).mono ?_
  rintro e w1 ⟨rfl, hB1⟩
  go_wp2_with fail
  go_loopw [6, 21] (fun tot i wr => ∃ k : Nat, (k = 0 ∧ i = .int .i64 0 ∨ k = 1 ∧ i = .int .i64 1) ∧ Below w.heap.size w wr ∧ ∃ r : ByteArray, tot = .string r ∧ Hid (r.data.toList = ratText (if k = 0 then 0 else (hi - lo) * lenTo sp sp.length))) (fun _ i _ => 1 - (intOf i).toNat)
  case atStart => exact ⟨0, Or.inl ⟨rfl, rfl⟩, hB1, _, rfl, Lib.hid (by rw [if_pos rfl, zero_text])⟩
  case round =>
    obtain ⟨k, hk, hB0, r, rfl, hrt⟩ := hrel
    rcases hk.symm with ⟨rfl, rfl⟩ | ⟨rfl, rfl⟩
    · clear hk
      go_wp2_with fail
      go_ret2
      exact ⟨r, by rw [hrt.out, if_neg (by omega)], rfl, hB0⟩
    · have hr0 : Hid (r.data.toList = ratText 0) := Lib.hid (by rw [hrt.out, if_pos rfl])
      clear hk hrt
      have d0 := keep hB0 c0
      have d1 := keep hB0 c1
      have d2 := keep hB0 c2
      clear c0 c1 c2
      go_wp2_with fail
      obtain ⟨wo, rfl⟩ : ∃ wo : World, wo = wr := ⟨_, rfl⟩
      have k0 : (wo.alloc (.cells #[.string s, .string t, .slice a sp.length cap] 45)).cell? ⟨wo.heap.size, 0, none⟩ = some (.string s) := by simp [go_sem]
      have k1 : (wo.alloc (.cells #[.string s, .string t, .slice a sp.length cap] 45)).cell? ⟨wo.heap.size, 1, none⟩ = some (.string t) := by simp [go_sem]
      have k2 : (wo.alloc (.cells #[.string s, .string t, .slice a sp.length cap] 45)).cell? ⟨wo.heap.size, 2, none⟩ = some (.slice a sp.length cap) := by simp [go_sem]
      have hBk : Below w.heap.size w (wo.alloc (.cells #[.string s, .string t, .slice a sp.length cap] 45)) := below_alloc hB0 _
      go_loopw [9, 28] (fun len i wq => ∃ j : Nat, j ≤ sp.length ∧ i = .int .i64 j ∧ (∃ q : ByteArray, len = .string q ∧ Hid (q.data.toList = ratText (lenTo sp j))) ∧ wq.cell? ⟨wo.heap.size, 0, none⟩ = some (.string s) ∧ wq.cell? ⟨wo.heap.size, 1, none⟩ = some (.string t) ∧ wq.cell? ⟨wo.heap.size, 2, none⟩ = some (.slice a sp.length cap) ∧ Below w.heap.size w wq) (fun _ i _ => sp.length - (intOf i).toNat)
      case atStart => exact ⟨0, by omega, rfl, ⟨_, rfl, Lib.hid (by rw [lenTo_zero, zero_text])⟩, k0, k1, k2, hBk⟩
      case round =>
        obtain ⟨j, hj, rfl, ⟨q, rfl, hq⟩, e0, e1, e2, hBj⟩ := hrel
        clear k0 k1 k2 hBk hB0 d0 d1 d2
        by_cases hjn : j = sp.length
        · subst hjn
          go_wp2_with fail
          refine (area1_small s t q (.slice a sp.length cap) _ (HG.out.below hBj) HS.out HT.out hq.out hlo hhi (HSU.out _ (Nat.le_refl _)) hd rfl).mono ?_
          rintro e w2 ⟨m, hm, rfl, hB2⟩
          have HM := Lib.hid hm
          have hB2' := below_trans' hBj hB2
          clear hm
          go_wp2_with fail
          refine (Add_small r m _ (HG.out.below hB2') hr0.out small_zero HM.out hp).mono ?_
          rintro e w3 ⟨m', hm', rfl, hB3⟩
          have HM' := Lib.hid hm'
          have hB3' := below_trans' hB2' hB3
          clear hm'
          go_wp2_with fail
          go_roundw
          case rel => exact ⟨1, Or.inr ⟨rfl, rfl⟩, hB3', m', rfl, Lib.hid (by rw [HM'.out, if_neg (by omega), Rat.zero_add])⟩
          case measure => simp [intOf]
        · have hj1 : j < sp.length := by omega
          obtain ⟨b, off, rfl, hbb, hcc⟩ := HC.out (fun h => by rw [h] at hj1; simp at hj1)
          obtain ⟨u, v, f0, f1, hu, hv⟩ := hcc j hj1
          have q0 := keep hBj f0
          have q1 := keep hBj f1
          have HU := Lib.hid hu
          have HV := Lib.hid hv
          have hji : (j : Int) < (sp.length : Int) := by omega
          obtain ⟨hR1, hR2, hR3⟩ := HRS.out.1 j hj1
          have hdj := HDI.out j hj1
          have hlj := HSU.out j hj
          clear hu hv f0 f1 hjn hcc hR3
          go_wp2_with fail
          refine (Sub_small v u _ (HG.out.below (by repeat (first | (with_reducible first | exact Below.refl _ _ | refine Below.setCell ?_ ?_ _ | refine below_drewN ?_ _ | refine Below.drew ?_ | refine below_alloc ?_ _ | refine below_trans'' (by assumption) ?_) | exact Nat.le_refl _ | (focus (simp; done)) | (focus (simp; omega)) | omega))) HV.out hR2 HU.out hR1).mono ?_
          rintro e w2 ⟨m, hm, rfl, hB2⟩
          have HM := Lib.hid hm
          have hB2' : Below w.heap.size w w2 := (by repeat (first | (with_reducible first | exact Below.refl _ _ | refine Below.setCell ?_ ?_ _ | refine below_drewN ?_ _ | refine Below.drew ?_ | refine below_alloc ?_ _ | refine below_trans'' (by assumption) ?_) | exact Nat.le_refl _ | (focus (simp; done)) | (focus (simp; omega)) | omega))
          have e0' := keep hB2 (keep (below_alloc (Below.refl _ _) _) e0)
          have e1' := keep hB2 (keep (below_alloc (Below.refl _ _) _) e1)
          have e2' := keep hB2 (keep (below_alloc (Below.refl _ _) _) e2)
          clear hm e0 e1 e2 hB2 q0 q1
          go_wp2_with fail
          refine (Add_small q m _ (HG.out.below hB2') hq.out hlj HM.out hdj).mono ?_
          rintro e w3 ⟨m', hm', rfl, hB3⟩
          have HM' := Lib.hid hm'
          have hB3' := below_trans' hB2' hB3
          have e0 := keep hB3 e0'
          have e1 := keep hB3 e1'
          have e2 := keep hB3 e2'
          clear hm' e0' e1' e2' hB3
          go_wp2_with fail
          go_roundw
          case rel => exact ⟨j + 1, by omega, by go_num, ⟨m', rfl, Lib.hid (by rw [HM'.out, lenTo_succ _ _ hj1])⟩, e0, e1, e2, hB3'⟩
          case measure => simp [intOf]; omega
set_option maxHeartbeats 400000 in
theorem area_one {lo hi : Rat} {sp : List (Rat × Rat)} (b0 o0 cap0 : Nat) (s t : ByteArray) (v : Value) (w : World) (hG : Glo w)
    (c0 : w.cell? ⟨b0, o0, none⟩ = some (.string s)) (c1 : w.cell? ⟨b0, o0 + 1, none⟩ = some (.string t)) (c2 : w.cell? ⟨b0, o0 + 2, none⟩ = some v)
    (hs : s.data.toList = ratText lo) (ht : t.data.toList = ratText hi) (hlo : Small lo) (hhi : Small hi) (hlt : lo < hi)
    (hv : IsSpans w v sp) (hr : RightSpans sp) (hn : sp.length ≤ 64)
    (hsum : ∀ k, k ≤ sp.length → Small (lenTo sp k)) (hdif : ∀ k (h : k < sp.length), Small (sp[k].2 - sp[k].1)) (hd : Small (hi - lo)) (hp : Small ((hi - lo) * lenTo sp sp.length)) :
    Calls Tryz.prog 93 #[.slice (some ⟨b0, o0, none⟩) 1 cap0] w (RetN ((hi - lo) * lenTo sp sp.length) w) := by
  have H := Lib.hid (sum_area_one b0 o0 cap0 s t v w hG c0 c1 c2 hs ht hlo hhi hlt hv hr hn hsum hdif hd hp)
  clear hG c0 c1 c2 hs ht hv hr hsum hdif
  go_enter Tryz.func93, Tryz.ntmps93
  go_wp2_with fail
  refine H.out.mono ?_
  rintro e w1 ⟨r, hr, rfl, hB⟩
  have HR := Lib.hid hr
  clear hr
  go_wp2_with fail
  go_ret2
  exact ⟨r, HR.out, rfl, hB⟩
end Go.Proofs.YtjpigaobeegbgaaGreatDoor
