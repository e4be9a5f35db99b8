/- The walk of kingpostlaw50.GutterFlows. -/
import Derived.Test.YteepphiomcedfaaGreatDoorJ23
import Derived.Test.YteepphiomcedfaaGreatDoorJ14
set_option maxRecDepth 100000
set_option linter.unusedVariables false
set_option linter.unusedSimpArgs false
namespace Go.Proofs.YteepphiomcedfaaGreatDoor
open Go.RowKit
theorem flowQ_add (p q : Rat) (n : Int) : flowQ p n + flowQ q n = flowQ (p + q) n := by
 unfold flowQ
 rw [Rat.div_def, Rat.div_def, Rat.div_def, ← Rat.add_mul, ← Rat.add_mul]
theorem flowQ_lt {p : Rat} {n m : Int} (hp : 0 < p) (hm : 0 < m) : flowQ p n < flowQ p (n + m) := by
 unfold flowQ
 rw [Rat.div_def, Rat.div_def]
 refine Rat.mul_lt_mul_of_pos_right ?_ (Rat.inv_pos.2 (Rat.intCast_lt_intCast.2 (show (0 : Int) < 60000000 by decide)))
 rw [Rat.mul_comm p, Rat.mul_comm p]
 exact Rat.mul_lt_mul_of_pos_right (Rat.intCast_lt_intCast.2 (by omega)) hp
theorem compareInt_self (x : Int) : Lib.compareInt x x = 0 := by
 unfold Lib.compareInt
 rw [if_neg (by omega), if_neg (by omega)]
theorem flow_cmp {s : ByteArray} {p : Rat} {n m : Int} (hs : s.data.toList = ratText p) (h0 : 0 ≤ p.num) (hm : 0 ≤ m) :
  ∃ c : Int, Lib.compareInt ((flowQ p n).num * (flowQ p (n + m)).den) ((flowQ p (n + m)).num * (flowQ p n).den) = c ∧ -1 ≤ c ∧ c ≤ 0 ∧ ((c = 0 ∧ m = 0) ∨ (c = 0 ∧ m ≠ 0 ∧ (s.toList == [48]) = true) ∨ (c = -1 ∧ m ≠ 0 ∧ (s.toList == [48]) = false)) := by
 by_cases hm0 : m = 0
 ·subst hm0
  rw [Int.add_zero]
  exact ⟨0, compareInt_self _, by omega, by omega, .inl ⟨rfl, rfl⟩⟩
 ·by_cases hp : p = 0
  ·subst hp
   refine ⟨0, ?_, by omega, by omega, .inr (.inl ⟨rfl, hm0, ?_⟩)⟩
   ·have e : ∀ k : Int, flowQ 0 k = 0 := fun k => by unfold flowQ; rw [Rat.zero_mul, Rat.div_def, Rat.zero_mul]
    rw [e, e]
    rfl
   ·rw [Lib.toList_data, hs]
    decide +kernel
  ·refine ⟨-1, cmp_lt (flowQ_lt ?_ (by omega)), by omega, by omega, .inr (.inr ⟨rfl, hm0, ?_⟩)⟩
   ·refine Rat.lt_of_le_of_ne (Rat.num_nonneg.1 h0) (fun e => hp e.symm)
   ·rw [Lib.toList_data, hs]
    have := ratText_ne48 hp
    simpa using this
theorem tmod5001 {a : Int} (h0 : 0 ≤ a) (h1 : a ≤ 65535) : ∃ n : Int, a.tmod 5001 = n ∧ 0 ≤ n ∧ n ≤ 5000 ∧ IntKind.i64.wrap n = n ∧ IntKind.i64.wrap a = a := by
 have h : a.tmod 5001 = a % 5001 := Int.tmod_eq_emod_of_nonneg h0
 exact ⟨_, rfl, by omega, by omega, IntWalk.i64_in _ (by omega), IntWalk.i64_in _ (by omega)⟩
set_option maxHeartbeats 3200000 in
theorem flowsLaw (s t : ByteArray) (a b : Int) (w : World) (hG : Glo w) (a1 : 0 ≤ a) (a2 : a ≤ 65535) (b1 : 0 ≤ b) (b2 : b ≤ 65535) :
  Calls Tryz.prog 4 #[.string s, .string t, .int .u16 a, .int .u16 b] w (RetB (.bool true) w) := by
 obtain ⟨n, hn, n1, n2, hwn, hwa⟩ := tmod5001 a1 a2
 obtain ⟨m, hm, m1, m2, hwm, hwb⟩ := tmod5001 b1 b2
 have HG := Lib.hid hG
 clear hG
 go_enter Tryz.func4, Tryz.ntmps4
 go_wp2_with fail
 refine (short_ok 2 (fun k => if k = 0 then s else t) _ 0 2 _ (HG.out.below (by repeat (first | (with_reducible first | exact Below.refl _ _ | refine Below.setCell ?_ ?_ _ | refine below_drewN ?_ _ | refine Below.drew ?_ | refine below_alloc ?_ _ | refine below_trans'' (by assumption) ?_) | exact Nat.le_refl _ | (focus (simp; done)) | (focus (simp; omega)) | omega))) (fun k hk => ?_) (by omega)).mono ?_
 ·obtain rfl | rfl : k = 0 ∨ k = 1 := by omega
  ·simp [go_sem]
  ·simp [go_sem]
 rintro e w1 ⟨v, rfl, HV, hB1⟩
 have hb1 : Below w.heap.size w w1 := (by repeat (first | (with_reducible first | exact Below.refl _ _ | refine Below.setCell ?_ ?_ _ | refine below_drewN ?_ _ | refine Below.drew ?_ | refine below_alloc ?_ _ | refine below_trans'' (by assumption) ?_) | exact Nat.le_refl _ | (focus (simp; done)) | (focus (simp; omega)) | omega))
 clear hB1
 cases v
 ·go_wp2_with fail
  refine (awake50_ok _ (HG.out.below hb1)).mono ?_
  rintro e w2 ⟨rfl, hB2⟩
  have hb2 : Below w.heap.size w w2 := (by repeat (first | (with_reducible first | exact Below.refl _ _ | refine Below.setCell ?_ ?_ _ | refine below_drewN ?_ _ | refine Below.drew ?_ | refine below_alloc ?_ _ | refine below_trans'' (by assumption) ?_) | exact Nat.le_refl _ | (focus (simp; done)) | (focus (simp; omega)) | omega))
  clear hB2
  go_wp2_with fail
  go_ret
  exact ⟨rfl, hb2⟩
 ·have HS1 : Short s := HV.out (by trivial) 0 (by omega)
  have HT1 : Short t := HV.out (by trivial) 1 (by omega)
  clear HV
  obtain ⟨-, p, hs, hp, hp0⟩ := HS1
  obtain ⟨-, q, ht, hq, hq0⟩ := HT1
  have hpq0 : 0 ≤ (p + q).num := Rat.num_nonneg.2 (Rat.add_nonneg (Rat.num_nonneg.1 hp0) (Rat.num_nonneg.1 hq0))
  have FA := Lib.hid (fun w hG => RAdd_ok s t w hG hs hp ht hq (by omega))
  have FX := Lib.hid (fun w hG => flowL_ok s n w hG hs hp (by omega) hp0 n1 (by omega))
  have FY := Lib.hid (fun w hG => flowL_ok t n w hG ht hq (by omega) hq0 n1 (by omega))
  have FZ := Lib.hid (fun (r : ByteArray) w hG hr => flowL_ok r n w hG hr (hp.add hq) (by omega) hpq0 n1 (by omega))
  have FS := Lib.hid (fun (x y : ByteArray) w hG hx hy => RAdd_ok x y w hG hx (hp.flow (n := n) n1 (by omega)) hy (hq.flow (n := n) n1 (by omega)) (by omega))
  have FW := Lib.hid (fun w hG => flowL_ok s (n + m) w hG hs hp (by omega) hp0 (by omega) (by omega))
  have FC := Lib.hid (fun (x y : ByteArray) w hG hx hy => RCompare_ok x y w hG hx (hp.flow (n := n) n1 (by omega)) hy (hp.flow (n := n + m) (by omega) (by omega)) (by omega))
  obtain ⟨c, hc, c1, c2, hcc⟩ := flow_cmp (n := n) hs hp0 m1
  have HC := Lib.hid hc
  have HCC := Lib.hid hcc
  have hnm := IntWalk.i64_in (n + m) (by omega)
  clear hs ht hp hq hp0 hq0 hpq0 hc hcc
  go_wp2_with fail
  refine (FA.out _ (HG.out.below hb1)).mono ?_
  rintro e w2 ⟨both, hboth, rfl, hB2⟩
  have HB := Lib.hid hboth
  have hb2 : Below w.heap.size w w2 := (by repeat (first | (with_reducible first | exact Below.refl _ _ | refine Below.setCell ?_ ?_ _ | refine below_drewN ?_ _ | refine Below.drew ?_ | refine below_alloc ?_ _ | refine below_trans'' (by assumption) ?_) | exact Nat.le_refl _ | (focus (simp; done)) | (focus (simp; omega)) | omega))
  clear hB2 hboth
  go_wp2_with fail
  refine (FX.out _ (HG.out.below hb2)).mono ?_
  rintro e w3 ⟨x, hx, rfl, hB3⟩
  have HX := Lib.hid hx
  have hb3 : Below w.heap.size w w3 := (by repeat (first | (with_reducible first | exact Below.refl _ _ | refine Below.setCell ?_ ?_ _ | refine below_drewN ?_ _ | refine Below.drew ?_ | refine below_alloc ?_ _ | refine below_trans'' (by assumption) ?_) | exact Nat.le_refl _ | (focus (simp; done)) | (focus (simp; omega)) | omega))
  clear hB3 hx hb2
  go_wp2_with fail
  refine (FY.out _ (HG.out.below hb3)).mono ?_
  rintro e w4 ⟨y, hy, rfl, hB4⟩
  have HY := Lib.hid hy
  have hb4 : Below w.heap.size w w4 := (by repeat (first | (with_reducible first | exact Below.refl _ _ | refine Below.setCell ?_ ?_ _ | refine below_drewN ?_ _ | refine Below.drew ?_ | refine below_alloc ?_ _ | refine below_trans'' (by assumption) ?_) | exact Nat.le_refl _ | (focus (simp; done)) | (focus (simp; omega)) | omega))
  clear hB4 hy hb3
  go_wp2_with fail
  refine (FZ.out _ _ (HG.out.below hb4) HB.out).mono ?_
  rintro e w5 ⟨z, hz, rfl, hB5⟩
  have HZ := Lib.hid hz
  have hb5 : Below w.heap.size w w5 := (by repeat (first | (with_reducible first | exact Below.refl _ _ | refine Below.setCell ?_ ?_ _ | refine below_drewN ?_ _ | refine Below.drew ?_ | refine below_alloc ?_ _ | refine below_trans'' (by assumption) ?_) | exact Nat.le_refl _ | (focus (simp; done)) | (focus (simp; omega)) | omega))
  clear hB5 hz hb4
  go_wp2_with fail
  refine (FS.out _ _ _ (HG.out.below hb5) HX.out HY.out).mono ?_
  rintro e w6 ⟨sm, hsm, rfl, hB6⟩
  have hzs : sm = z := (ByteArray.ext (Array.toList_inj.1 (by rw [hsm, HZ.out, flowQ_add])))
  subst hzs
  have hb6 : Below w.heap.size w w6 := (by repeat (first | (with_reducible first | exact Below.refl _ _ | refine Below.setCell ?_ ?_ _ | refine below_drewN ?_ _ | refine Below.drew ?_ | refine below_alloc ?_ _ | refine below_trans'' (by assumption) ?_) | exact Nat.le_refl _ | (focus (simp; done)) | (focus (simp; omega)) | omega))
  clear hB6 hsm hb5
  go_wp2_with fail
  refine (FW.out _ (HG.out.below hb6)).mono ?_
  rintro e w7 ⟨x2, hx2, rfl, hB7⟩
  have HX2 := Lib.hid hx2
  have hb7 : Below w.heap.size w w7 := (by repeat (first | (with_reducible first | exact Below.refl _ _ | refine Below.setCell ?_ ?_ _ | refine below_drewN ?_ _ | refine Below.drew ?_ | refine below_alloc ?_ _ | refine below_trans'' (by assumption) ?_) | exact Nat.le_refl _ | (focus (simp; done)) | (focus (simp; omega)) | omega))
  clear hB7 hx2 hb6
  go_wp2_with fail
  refine (FC.out _ _ _ (HG.out.below hb7) HX.out HX2.out).mono ?_
  rintro e w8 ⟨rfl, hB8⟩
  rw [HC.out]
  have hb8 : Below w.heap.size w w8 := (by repeat (first | (with_reducible first | exact Below.refl _ _ | refine Below.setCell ?_ ?_ _ | refine below_drewN ?_ _ | refine Below.drew ?_ | refine below_alloc ?_ _ | refine below_trans'' (by assumption) ?_) | exact Nat.le_refl _ | (focus (simp; done)) | (focus (simp; omega)) | omega))
  clear hB8 hb7 HX HY HZ HX2 HB FA FX FY FZ FS FW FC HC
  rcases HCC.out with ⟨rfl, rfl⟩ | ⟨rfl, hm0, h48⟩ | ⟨rfl, hm0, h48⟩
  ·go_wp2_with fail
   refine (awake50_ok _ (HG.out.below hb8)).mono ?_
   rintro e w9 ⟨rfl, hB9⟩
   have hb9 : Below w.heap.size w w9 := (by repeat (first | (with_reducible first | exact Below.refl _ _ | refine Below.setCell ?_ ?_ _ | refine below_drewN ?_ _ | refine Below.drew ?_ | refine below_alloc ?_ _ | refine below_trans'' (by assumption) ?_) | exact Nat.le_refl _ | (focus (simp; done)) | (focus (simp; omega)) | omega))
   clear hB9
   go_wp2_with fail
   go_ret
   exact ⟨rfl, hb9⟩
  ·have hme : (m == 0) = false := by simpa using hm0
   go_wp2_with fail
   refine (awake50_ok _ (HG.out.below hb8)).mono ?_
   rintro e w9 ⟨rfl, hB9⟩
   have hb9 : Below w.heap.size w w9 := (by repeat (first | (with_reducible first | exact Below.refl _ _ | refine Below.setCell ?_ ?_ _ | refine below_drewN ?_ _ | refine Below.drew ?_ | refine below_alloc ?_ _ | refine below_trans'' (by assumption) ?_) | exact Nat.le_refl _ | (focus (simp; done)) | (focus (simp; omega)) | omega))
   clear hB9
   go_wp2_with fail
   go_ret
   exact ⟨rfl, hb9⟩
  ·have hme : (m == 0) = false := by simpa using hm0
   go_wp2_with fail
   refine (awake50_ok _ (HG.out.below hb8)).mono ?_
   rintro e w9 ⟨rfl, hB9⟩
   have hb9 : Below w.heap.size w w9 := (by repeat (first | (with_reducible first | exact Below.refl _ _ | refine Below.setCell ?_ ?_ _ | refine below_drewN ?_ _ | refine Below.drew ?_ | refine below_alloc ?_ _ | refine below_trans'' (by assumption) ?_) | exact Nat.le_refl _ | (focus (simp; done)) | (focus (simp; omega)) | omega))
   clear hB9
   go_wp2_with fail
   go_ret
   exact ⟨rfl, hb9⟩
end Go.Proofs.YteepphiomcedfaaGreatDoor
