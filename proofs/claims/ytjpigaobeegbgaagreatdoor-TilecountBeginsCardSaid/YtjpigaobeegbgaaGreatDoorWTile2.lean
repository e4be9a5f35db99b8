/- The walk of tilecount.Course's closure. -/
import Derived.Test.YtjpigaobeegbgaaGreatDoorWCmpMid
import Derived.Test.YtjpigaobeegbgaaGreatDoorWTile1
namespace Go.Proofs.YtjpigaobeegbgaaGreatDoor
open Go.RowKit
/-- what the closure leaves: the two captured counters -/
def RetCount (bf bc : Nat) (vf vc : Int) (w : World) (e : Ending) (w' : World) : Prop := e = .returned (.bool true) ∧ Below bf w w' ∧ w'.cell? ⟨bf, 0, none⟩ = some (.int .i64 vf) ∧ w'.frozen? ⟨bf, 0, none⟩ = false ∧ w'.cell? ⟨bc, 0, none⟩ = some (.int .i64 vc) ∧ w'.frozen? ⟨bc, 0, none⟩ = false
theorem cmp_most {p : Rat} (hp : Small p) : Lib.compareInt p.num (1073741824 * (p.den : Int)) = -1 := by
  have h1 := hp.1
  have h2 := p.den_pos
  rw [Lib.compareInt, if_pos (by omega)]
set_option maxRecDepth 100000 in
set_option maxHeartbeats 1600000 in
theorem count_ok {lo hi : Rat} (s t : ByteArray) (wd vf vc : Int) (bw bf bc : Nat) (w : World) (hG : Glo w) (hs : s.data.toList = ratText lo) (ht : t.data.toList = ratText hi) (hlo : Small lo) (hhi : Small hi) (hd : Small (hi - lo)) (h1 : 1 ≤ wd) (h2 : wd ≤ 2000) (hq : Small ((hi - lo) / wd)) (hfl : Small (((hi - lo) / wd).floor : Int))
    (cw : w.cell? ⟨bw, 0, none⟩ = some (.int .i64 wd)) (cf : w.cell? ⟨bf, 0, none⟩ = some (.int .i64 vf)) (cc : w.cell? ⟨bc, 0, none⟩ = some (.int .i64 vc)) (ff : w.frozen? ⟨bf, 0, none⟩ = false) (fc : w.frozen? ⟨bc, 0, none⟩ = false) (hbc : bf < bc) (hvf : 0 ≤ vf) (hvf2 : vf ≤ 1000000000000) (hvc : 0 ≤ vc) (hvc2 : vc ≤ 1000000000000) :
    Calls Tryz.prog 46 #[.agg #[.string s, .string t], .pointer (some ⟨bw, 0, none⟩), .pointer (some ⟨bf, 0, none⟩), .pointer (some ⟨bc, 0, none⟩)] w (RetCount bf bc (vf + ((hi - lo) / wd).floor) (if ((hi - lo) / wd).den = 1 then vc else vc + 1) w) := by
  have HS := Lib.hid hs
  have HT := Lib.hid ht
  have HG := Lib.hid hG
  have hws : Small (wd : Rat) := ⟨by show wd.natAbs < 100000000; omega, by show 1 < 100000000; omega⟩
  have hw0 : (wd : Rat) ≠ 0 := by
    intro h
    have : wd = 0 := by exact_mod_cast h
    omega
  have hfl1 : -100000000 < ((hi - lo) / wd).floor ∧ ((hi - lo) / wd).floor < 100000000 := by
    have h3 := hfl.1
    have h4 : (((hi - lo) / (wd : Rat)).floor : Rat).num = ((hi - lo) / (wd : Rat)).floor := rfl
    rw [h4] at h3
    omega
  have hcm := cmp_most hq
  generalize hQ : (hi - lo) / (wd : Rat) = Q at *
  have hden : Q.den = 1 ↔ (Q.floor : Rat) = Q := by
    constructor
    · intro h
      rw [Rat.floor_def, h]
      refine Rat.ext ?_ h.symm
      show Q.num / ((1 : Nat) : Int) = Q.num
      exact Int.ediv_one _
    · intro h
      rw [← h]; rfl
  have hQ' := Lib.hid hQ
  have HDEN := Lib.hid hden
  obtain ⟨hfa, hfb⟩ := hfl1
  generalize hV : (if Q.den = 1 then vc else vc + 1) = V
  have hV1 : Q.den = 1 → V = vc := fun h => by rw [← hV, if_pos h]
  have hV2 : ¬ Q.den = 1 → V = vc + 1 := fun h => by rw [← hV, if_neg h]
  have HV1 := Lib.hid hV1
  have HV2 := Lib.hid hV2
  clear hs ht hG hden hQ hV hV1 hV2
  go_enter Tryz.func46, Tryz.ntmps46
  go_wp2_with fail
  refine (Sub_small t s _ (HG.out.below (by repeat (first | (with_reducible first | exact Below.refl _ _ | refine Below.setCell ?_ ?_ _ | refine below_drewN ?_ _ | refine Below.drew ?_ | refine below_alloc ?_ _ | refine below_trans'' (by assumption) ?_) | exact Nat.le_refl _ | (focus (simp; done)) | (focus (simp; omega)) | omega))) HT.out hhi HS.out hlo).mono ?_
  rintro e w1 ⟨r1, hr1, rfl, hB1⟩
  have hb1 : Below w.heap.size w w1 := (by repeat (first | (with_reducible first | exact Below.refl _ _ | refine Below.setCell ?_ ?_ _ | refine below_drewN ?_ _ | refine Below.drew ?_ | refine below_alloc ?_ _ | refine below_trans'' (by assumption) ?_) | exact Nat.le_refl _ | (focus (simp; done)) | (focus (simp; omega)) | omega))
  have HR1 := Lib.hid hr1
  have cw1 := keep hb1 cw
  clear hr1 hB1
  go_wp2_with fail
  refine (twhole_any wd _ (HG.out.below (by repeat (first | (with_reducible first | exact Below.refl _ _ | refine Below.setCell ?_ ?_ _ | refine below_drewN ?_ _ | refine Below.drew ?_ | refine below_alloc ?_ _ | refine below_trans'' (by assumption) ?_) | exact Nat.le_refl _ | (focus (simp; done)) | (focus (simp; omega)) | omega))) (by omega) (by omega)).mono ?_
  rintro e w2 ⟨r2, hr2, rfl, hB2⟩
  have hb2 : Below w.heap.size w w2 := (by repeat (first | (with_reducible first | exact Below.refl _ _ | refine Below.setCell ?_ ?_ _ | refine below_drewN ?_ _ | refine Below.drew ?_ | refine below_alloc ?_ _ | refine below_trans'' (by assumption) ?_) | exact Nat.le_refl _ | (focus (simp; done)) | (focus (simp; omega)) | omega))
  clear hB2
  go_wp2_with fail
  refine (Div_small r1 r2 _ (HG.out.below (by repeat (first | (with_reducible first | exact Below.refl _ _ | refine Below.setCell ?_ ?_ _ | refine below_drewN ?_ _ | refine Below.drew ?_ | refine below_alloc ?_ _ | refine below_trans'' (by assumption) ?_) | exact Nat.le_refl _ | (focus (simp; done)) | (focus (simp; omega)) | omega))) HR1.out hd hr2.out hws hw0).mono ?_
  rintro e w3 ⟨r3, hr3, rfl, hB3⟩
  have hb3 : Below w.heap.size w w3 := (by repeat (first | (with_reducible first | exact Below.refl _ _ | refine Below.setCell ?_ ?_ _ | refine below_drewN ?_ _ | refine Below.drew ?_ | refine below_alloc ?_ _ | refine below_trans'' (by assumption) ?_) | exact Nat.le_refl _ | (focus (simp; done)) | (focus (simp; omega)) | omega))
  rw [hQ'.out] at hr3
  have HR3 := Lib.hid hr3
  clear hr3 hB3
  go_wp2_with fail
  refine (twhole_any 1073741824 _ (HG.out.below (by repeat (first | (with_reducible first | exact Below.refl _ _ | refine Below.setCell ?_ ?_ _ | refine below_drewN ?_ _ | refine Below.drew ?_ | refine below_alloc ?_ _ | refine below_trans'' (by assumption) ?_) | exact Nat.le_refl _ | (focus (simp; done)) | (focus (simp; omega)) | omega))) (by omega) (by omega)).mono ?_
  rintro e w4 ⟨r4, hr4, rfl, hB4⟩
  have hb4 : Below w.heap.size w w4 := (by repeat (first | (with_reducible first | exact Below.refl _ _ | refine Below.setCell ?_ ?_ _ | refine below_drewN ?_ _ | refine Below.drew ?_ | refine below_alloc ?_ _ | refine below_trans'' (by assumption) ?_) | exact Nat.le_refl _ | (focus (simp; done)) | (focus (simp; omega)) | omega))
  have HR4 : Hid (r4.data.toList = Lib.itoa 1073741824) := Lib.hid (by rw [hr4.out, ratText_int])
  clear hr4 hB4
  go_wp2_with fail
  refine (Compare_mid r3 r4 _ (HG.out.below (by repeat (first | (with_reducible first | exact Below.refl _ _ | refine Below.setCell ?_ ?_ _ | refine below_drewN ?_ _ | refine Below.drew ?_ | refine below_alloc ?_ _ | refine below_trans'' (by assumption) ?_) | exact Nat.le_refl _ | (focus (simp; done)) | (focus (simp; omega)) | omega))) HR3.out hq HR4.out mid_most (by omega)).mono ?_
  rintro e w5 ⟨rfl, hB5⟩
  have hb5 : Below w.heap.size w w5 := (by repeat (first | (with_reducible first | exact Below.refl _ _ | refine Below.setCell ?_ ?_ _ | refine below_drewN ?_ _ | refine Below.drew ?_ | refine below_alloc ?_ _ | refine below_trans'' (by assumption) ?_) | exact Nat.le_refl _ | (focus (simp; done)) | (focus (simp; omega)) | omega))
  rw [hcm]
  clear hB5
  go_wp2_with fail
  refine (Floor_small r3 _ (HG.out.below (by repeat (first | (with_reducible first | exact Below.refl _ _ | refine Below.setCell ?_ ?_ _ | refine below_drewN ?_ _ | refine Below.drew ?_ | refine below_alloc ?_ _ | refine below_trans'' (by assumption) ?_) | exact Nat.le_refl _ | (focus (simp; done)) | (focus (simp; omega)) | omega))) HR3.out hq).mono ?_
  rintro e w6 ⟨r6, hr6, rfl, hB6⟩
  have hb6 : Below w.heap.size w w6 := (by repeat (first | (with_reducible first | exact Below.refl _ _ | refine Below.setCell ?_ ?_ _ | refine below_drewN ?_ _ | refine Below.drew ?_ | refine below_alloc ?_ _ | refine below_trans'' (by assumption) ?_) | exact Nat.le_refl _ | (focus (simp; done)) | (focus (simp; omega)) | omega))
  have HR6 := Lib.hid hr6
  clear hr6 hB6
  go_wp2_with fail
  refine (Int_small Q.floor r6 _ (HG.out.below (by repeat (first | (with_reducible first | exact Below.refl _ _ | refine Below.setCell ?_ ?_ _ | refine below_drewN ?_ _ | refine Below.drew ?_ | refine below_alloc ?_ _ | refine below_trans'' (by assumption) ?_) | exact Nat.le_refl _ | (focus (simp; done)) | (focus (simp; omega)) | omega))) HR6.out hfl).mono ?_
  rintro e w7 ⟨rfl, hB7⟩
  have hb7 : Below w.heap.size w w7 := (by repeat (first | (with_reducible first | exact Below.refl _ _ | refine Below.setCell ?_ ?_ _ | refine below_drewN ?_ _ | refine Below.drew ?_ | refine below_alloc ?_ _ | refine below_trans'' (by assumption) ?_) | exact Nat.le_refl _ | (focus (simp; done)) | (focus (simp; omega)) | omega))
  have cf7 := keep hb7 cf
  have cc7 := keep hb7 cc
  have ff7 := keepf hb7 cf ff
  have fc7 := keepf hb7 cc fc
  have z1 := lt_of_cell cf7
  have z2 := lt_of_cell cc7
  have hzf := lt_of_cell cf
  have hw1 : IntKind.i64.wrap (vf + Q.floor) = vf + Q.floor := IntWalk.i64_in _ (by omega)
  have hw2 : IntKind.i64.wrap (vc + 1) = vc + 1 := IntWalk.i64_in _ (by omega)
  have hbf7 : Below bf w w7 := hb7.mono (by omega)
  clear hB7
  by_cases hde : Q.den = 1
  · have hE : (r6.toList == r3.toList) = true := by
      have h3 := HDEN.out.1 hde
      have h4 : r6.data.toList = r3.data.toList := by rw [HR6.out, HR3.out, h3]
      rw [Lib.toList_data, Lib.toList_data, h4]; simp
    have hVe := HV1.out hde
    clear HV1 HV2
    subst hVe
    go_wp2_with fail
    go_ret
    refine ⟨rfl, (hbf7).setCell (Nat.le_refl _) _, ?_, ?_, ?_, ?_⟩
    all_goals simp [go_sem, *, World.cell?_setCell_far, Nat.ne_of_gt, Nat.ne_of_lt]
  · have hE : (r6.toList == r3.toList) = false := by
      have h4 : r6.data.toList ≠ r3.data.toList := by
        intro h
        rw [HR6.out, HR3.out] at h
        exact hde (HDEN.out.2 (ratText_inj hfl hq h))
      rw [Lib.toList_data, Lib.toList_data]; simpa using h4
    have hVe := HV2.out hde
    clear HV1 HV2
    subst hVe
    go_wp2_with fail
    go_ret
    refine ⟨rfl, ((hbf7).setCell (Nat.le_refl _) _).setCell (Nat.le_of_lt hbc) _, ?_, ?_, ?_, ?_⟩
    all_goals simp [go_sem, *, World.cell?_setCell_far, Nat.ne_of_gt, Nat.ne_of_lt]
end Go.Proofs.YtjpigaobeegbgaaGreatDoor
