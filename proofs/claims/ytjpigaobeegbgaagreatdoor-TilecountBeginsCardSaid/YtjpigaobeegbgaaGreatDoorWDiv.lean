/- Walks: rational.Div, Compare, Floor at short numbers. -/
import Derived.Test.YtjpigaobeegbgaaGreatDoorWOps
namespace Go.Proofs.YtjpigaobeegbgaaGreatDoor
open Go.RowKit
theorem ratText_ne0 {q : Rat} (h : Small q) (h0 : q ≠ 0) : ratText q ≠ [48] := by
  intro h1
  have h2 := natOf_ratText h
  rw [h1] at h2
  have h3 : natOf [48] = some (0, 1) := by decide
  rw [h3] at h2
  simp only [Option.some.injEq, Prod.mk.injEq] at h2
  exact h0 (Rat.num_eq_zero.1 h2.1.symm)
set_option maxHeartbeats 400000 in
theorem Div_small {p q : Rat} (s t : ByteArray) (w : World) (hG : Glo w) (hs : s.data.toList = ratText p) (hp : Small p) (ht : t.data.toList = ratText q) (hq : Small q) (hq0 : q ≠ 0) :
    Calls Tryz.prog 47 #[.string s, .string t] w (RetN (p / q) w) := by
  have hne : (t.toList == [48]) = false := by
    rw [Lib.toList_data, ht]; simpa using ratText_ne0 hq hq0
  have hqn : q.num ≠ 0 := fun h => hq0 (Rat.num_eq_zero.1 h)
  have hd : (p.den : Int) * q.num ≠ 0 := Int.mul_ne_zero (by have := p.den_pos; omega) hqn
  obtain ⟨b1, b2, b3, b4, b5⟩ := bds8 hp.n8 hq.n8
  have hr : Rat.divInt (p.num * q.den) (p.den * q.num) = p / q := by
    rw [Rat.div_def, Rat.inv_def, ← Rat.num_divInt_den p, Rat.divInt_mul_divInt, Rat.num_divInt_den]
  have HR := Lib.hid hr
  have HS := Lib.hid hs
  have HT := Lib.hid ht
  have HG := Lib.hid hG
  clear hr hs ht hG
  go_enter Tryz.func47, Tryz.ntmps47
  go_wp2_with fail
  refine (quick_small 94 (p.num * q.den) (p.den * q.num) s t _ HG.out HS.out hp HT.out hq (enters_of Tryz.func94 (by kernel_rfl) rfl) (fun w => div1_any _ _ _ _ w hp.n8 hq.n8) hd (by omega) (by omega) (by omega) (by omega)).mono ?_
  rintro e w1 ⟨r, hr, rfl, hB1⟩
  rw [HR.out] at hr
  have HR2 := Lib.hid hr
  clear hr
  go_wp2_with fail
  go_ret2
  exact ⟨r, HR2.out, rfl, hB1⟩
set_option maxHeartbeats 400000 in
theorem Compare_small {p q : Rat} (s t : ByteArray) (w : World) (hs : s.data.toList = ratText p) (hp : Small p) (ht : t.data.toList = ratText q) (hq : Small q) :
    Calls Tryz.prog 25 #[.string s, .string t] w (RetB (.tuple #[.int .i64 (Lib.compareInt (p.num * q.den) (q.num * p.den)), .int .i64 0]) w) := by
  obtain ⟨m1, m2, _⟩ := bds8 hp.n8 hq.n8
  have HS := Lib.hid hs
  have HT := Lib.hid ht
  clear hs ht
  go_enter Tryz.func25, Tryz.ntmps25
  go_wp2_with fail
  refine (nativeOf_small s _ HS.out hp).mono ?_
  rintro e w1 ⟨rfl, hB1⟩
  go_wp2_with fail
  refine (nativeOf_small t _ HT.out hq).mono ?_
  rintro e w2 ⟨rfl, hB2⟩
  obtain ⟨hc2, hf2⟩ := bcell hB2
  have z2 := hB2.size
  simp only [World.size_alloc] at z2
  have c0 : w2.cell? ⟨w1.heap.size, 0, none⟩ = some (.int .i64 p.num) := by rw [hc2 _ _ (by simp)]; simp [go_sem]
  have c1 : w2.cell? ⟨w1.heap.size, 1, none⟩ = some (.int .i64 p.den) := by rw [hc2 _ _ (by simp)]; simp [go_sem]
  have z3 : w1.heap.size < w2.heap.size := by omega
  obtain ⟨m1a, m1b⟩ := m1
  obtain ⟨m2a, m2b⟩ := m2
  clear hc2 hf2
  go_wp2_with fail
  refine (Tryz.cmp_Compare_int _ _ _).mono ?_
  rintro e w3 ⟨rfl, rfl⟩
  go_wp2_with fail
  go_ret2
  exact ⟨rfl, (by repeat (first | (with_reducible first | exact Below.refl _ _ | refine Below.setCell ?_ ?_ _ | refine below_drewN ?_ _ | refine Below.drew ?_ | refine below_alloc ?_ _ | refine below_trans'' (by assumption) ?_) | exact Nat.le_refl _ | (focus (simp; done)) | (focus (simp; omega)) | omega))⟩
theorem tdiv_bds {n d : Int} (a1 : -100000000 < n) (a2 : n < 100000000) (a3 : 0 < d) : -100000000 < n.tdiv d ∧ n.tdiv d < 100000000 := by
  have h1 : (n.tdiv d).natAbs ≤ n.natAbs := by rw [Int.natAbs_tdiv]; exact Nat.div_le_self _ _
  omega
theorem tdiv_floor (n d : Int) (hd : 0 < d) : (n.tmod d < 0 → n / d = n.tdiv d - 1) ∧ (¬ n.tmod d < 0 → n / d = n.tdiv d) := by
  have h1 := Int.mul_tdiv_add_tmod n d
  have h2 := Int.mul_ediv_add_emod n d
  have h3 := Int.emod_nonneg n (show d ≠ 0 by omega)
  have h4 := Int.emod_lt_of_pos n hd
  have h5 : n.tmod d < d := Int.tmod_lt_of_pos n hd
  have h6 : -d < n.tmod d := by have := Int.lt_tmod_of_pos n hd; omega
  constructor
  · intro h
    have h7 : d * (n / d - (n.tdiv d - 1)) < d * 1 ∧ d * (-1) < d * (n / d - (n.tdiv d - 1)) := by
      rw [Int.mul_sub, Int.mul_sub]; omega
    have := Int.lt_of_mul_lt_mul_left h7.1 (by omega)
    have := Int.lt_of_mul_lt_mul_left h7.2 (by omega)
    omega
  · intro h
    have h7 : d * (n / d - n.tdiv d) < d * 1 ∧ d * (-1) < d * (n / d - n.tdiv d) := by
      rw [Int.mul_sub]; omega
    have := Int.lt_of_mul_lt_mul_left h7.1 (by omega)
    have := Int.lt_of_mul_lt_mul_left h7.2 (by omega)
    omega
theorem ratText_int (n : Int) : ratText n = Lib.itoa n := by simp [ratText]
set_option maxRecDepth 100000 in
set_option maxHeartbeats 400000 in
theorem Floor_small {p : Rat} (s : ByteArray) (w : World) (hG : Glo w) (hs : s.data.toList = ratText p) (hp : Small p) :
    Calls Tryz.prog 49 #[.string s] w (RetN (p.floor : Int) w) := by
  have HS := Lib.hid hs
  have HG := Lib.hid hG
  obtain ⟨a1, a2, a3, a4⟩ := hp.n8
  have hz : ¬ ((p.den : Nat) : Int) = 0 := by omega
  have ht := tdiv_floor p.num p.den a3
  have hb : -100000000 < p.num.tdiv p.den ∧ p.num.tdiv p.den < 100000000 := tdiv_bds a1 a2 a3
  have hb2 : -100000000 < p.num.tmod p.den ∧ p.num.tmod p.den < 100000000 := by
    have := Int.tmod_lt_of_pos p.num a3; have := Int.lt_tmod_of_pos p.num a3; omega
  obtain ⟨hb1, hb2, ⟨hb3, hb4⟩⟩ := (⟨hb.1, hb.2, hb2⟩ : _ ∧ _ ∧ _)
  have hw1 : IntKind.i64.wrap (p.num.tdiv p.den) = p.num.tdiv p.den := IntWalk.i64_in _ (by omega)
  have hw2 : IntKind.i64.wrap (p.num.tmod p.den) = p.num.tmod p.den := IntWalk.i64_in _ (by omega)
  obtain ⟨t, hq⟩ : ∃ t, p.num.tdiv p.den = t := ⟨_, rfl⟩
  obtain ⟨m, hm⟩ : ∃ m, p.num.tmod p.den = m := ⟨_, rfl⟩
  rw [hq] at hb1 hb2 hw1 ht
  rw [hm] at hb3 hb4 hw2 ht
  by_cases h : m < 0
  · have hfl := ht.1 h
    have HF : Hid (ratText (p.floor : Int) = Lib.itoa (t - 1)) := Lib.hid (by rw [ratText_int, Rat.floor_def, hfl])
    clear hs hG ht hb hfl
    go_enter Tryz.func49, Tryz.ntmps49
    go_wp2_with fail
    refine (nativeOf_small s _ HS.out hp).mono ?_
    rintro e w1 ⟨rfl, hB1⟩
    go_wp2_with fail
    refine (itoa_any _ (by omega) (by omega) _ (HG.out.below (by repeat (first | (with_reducible first | exact Below.refl _ _ | refine Below.setCell ?_ ?_ _ | refine below_drewN ?_ _ | refine Below.drew ?_ | refine below_alloc ?_ _ | refine below_trans'' (by assumption) ?_) | exact Nat.le_refl _ | (focus (simp; done)) | (focus (simp; omega)) | omega)))).mono ?_
    rintro e w2 ⟨r, hr, rfl, hB2⟩
    have HR := Lib.hid hr
    clear hr
    go_wp2_with fail
    go_ret2
    exact ⟨r, HR.out.trans HF.out.symm, rfl, (by repeat (first | (with_reducible first | exact Below.refl _ _ | refine Below.setCell ?_ ?_ _ | refine below_drewN ?_ _ | refine Below.drew ?_ | refine below_alloc ?_ _ | refine below_trans'' (by assumption) ?_) | exact Nat.le_refl _ | (focus (simp; done)) | (focus (simp; omega)) | omega))⟩
  · have hfl := ht.2 h
    have HF : Hid (ratText (p.floor : Int) = Lib.itoa t) := Lib.hid (by rw [ratText_int, Rat.floor_def, hfl])
    have h' : (decide (m < 0)) = false := by simp; omega
    clear hs hG ht hb hfl h
    go_enter Tryz.func49, Tryz.ntmps49
    go_wp2_with fail
    refine (nativeOf_small s _ HS.out hp).mono ?_
    rintro e w1 ⟨rfl, hB1⟩
    go_wp2_with fail
    go_outline
    refine (itoa_any _ (by omega) (by omega) _ (HG.out.below (by repeat (first | (with_reducible first | exact Below.refl _ _ | refine Below.setCell ?_ ?_ _ | refine below_drewN ?_ _ | refine Below.drew ?_ | refine below_alloc ?_ _ | refine below_trans'' (by assumption) ?_) | exact Nat.le_refl _ | (focus (simp; done)) | (focus (simp; omega)) | omega)))).mono ?_
    rintro e w2 ⟨r, hr, rfl, hB2⟩
    have HR := Lib.hid hr
    clear hr
    go_wp2_with fail
    go_ret2
    exact ⟨r, HR.out.trans HF.out.symm, rfl, (by repeat (first | (with_reducible first | exact Below.refl _ _ | refine Below.setCell ?_ ?_ _ | refine below_drewN ?_ _ | refine Below.drew ?_ | refine below_alloc ?_ _ | refine below_trans'' (by assumption) ?_) | exact Nat.le_refl _ | (focus (simp; done)) | (focus (simp; omega)) | omega))⟩
end Go.Proofs.YtjpigaobeegbgaaGreatDoor
