/- Walks: rational.Parts, Int, Check; course.short, order: at short numbers. -/
import Derived.Test.YtjpigaobeegbgaaGreatDoorWGcd
namespace Go.Proofs.YtjpigaobeegbgaaGreatDoor
open Go.RowKit
def ordQ (p q : Rat) : Int := if p < q then -1 else if q < p then 1 else 0
theorem compareInt_rat (p q : Rat) : Lib.compareInt (p.num * q.den) (q.num * p.den) = ordQ p q := by
  unfold Lib.compareInt ordQ
  simp only [Rat.lt_iff]
theorem ratText_inj {p q : Rat} (hp : Small p) (hq : Small q) (h : ratText p = ratText q) : p = q := by
  have h1 := natOf_ratText hp
  rw [h, natOf_ratText hq] at h1
  simp only [Option.some.injEq, Prod.mk.injEq] at h1
  exact Rat.ext h1.1.symm h1.2.symm
set_option maxHeartbeats 400000 in
theorem Parts_small {q : Rat} (s : ByteArray) (w : World) (hG : Glo w) (hs : s.data.toList = ratText q) (hq : Small q) :
    Calls Tryz.prog 243 #[.string s] w fun e w' => ∃ a b : ByteArray, Hid (a.data.toList = Lib.itoa q.num) ∧ Hid (b.data.toList = Lib.decDigits q.den) ∧ e = .returned (.tuple #[.string a, .string b, .int .i64 0]) ∧ Below w.heap.size w w' := by
  have HS := Lib.hid hs
  have HG := Lib.hid hG
  clear hs hG
  go_enter Tryz.func243, Tryz.ntmps243
  go_wp2_with fail
  refine (read_small s _ HG.out HS.out hq).mono ?_
  rintro e w1 ⟨a, b, ha, hb, rfl, hB1⟩
  go_wp2_with fail
  go_quiet (fail)
  go_wp2_with fail
  go_ret3
  exact ⟨a, b, ha, hb, rfl, (by repeat (first | (with_reducible first | exact Below.refl _ _ | refine Below.setCell ?_ ?_ _ | refine below_drewN ?_ _ | refine Below.drew ?_ | refine below_alloc ?_ _ | refine below_trans'' (by assumption) ?_) | exact Nat.le_refl _ | (focus (simp; done)) | (focus (simp; omega)) | omega))⟩
set_option maxHeartbeats 400000 in
theorem RCheck_small {q : Rat} (s : ByteArray) (w : World) (hG : Glo w) (hs : s.data.toList = ratText q) (hq : Small q) :
    Calls Tryz.prog 80 #[.string s] w (RetB (.int .i64 0) w) := by
  have HS := Lib.hid hs
  have HG := Lib.hid hG
  clear hs hG
  go_enter Tryz.func80, Tryz.ntmps80
  go_wp2_with fail
  refine (read_small s _ HG.out HS.out hq).mono ?_
  rintro e w1 ⟨a, b, ha, hb, rfl, hB1⟩
  go_wp2_with fail
  go_ret
  exact ⟨rfl, (by repeat (first | (with_reducible first | exact Below.refl _ _ | refine Below.setCell ?_ ?_ _ | refine below_drewN ?_ _ | refine Below.drew ?_ | refine below_alloc ?_ _ | refine below_trans'' (by assumption) ?_) | exact Nat.le_refl _ | (focus (simp; done)) | (focus (simp; omega)) | omega))⟩
set_option maxRecDepth 100000 in
set_option maxHeartbeats 400000 in
theorem Int_small (n : Int) (s : ByteArray) (w : World) (hG : Glo w) (hs : s.data.toList = ratText n) (hq : Small (n : Rat)) :
    Calls Tryz.prog 50 #[.string s] w (RetB (.tuple #[.int .i64 n, .int .i64 0]) w) := by
  have HS := Lib.hid hs
  have HG := Lib.hid hG
  have hn : n.natAbs < 100000000 := hq.1
  clear hs hG
  go_enter Tryz.func50, Tryz.ntmps50
  go_wp2_with fail
  refine (read_small s _ HG.out HS.out hq).mono ?_
  rintro e w1 ⟨a, b, ha, hb, rfl, hB1⟩
  have hb1 := eq_of_list (s := b) (m := [49]) (by rw [hb.out]; exact one_digits)
  have hat : Hid (Lib.atoiAll a.data.toList = .ok n) := Lib.hid (by rw [ha.out, Rat.num_intCast]; exact atoi_itoa (by omega) (by omega))
  have hal : Hid (a.size ≤ 1000) := Lib.hid (by
    have h1 := itoa_len_le (n := n) (k := 8) (by omega) (by omega)
    have h2 : a.size = a.data.toList.length := rfl
    rw [h2, ha.out]
    exact Nat.le_trans h1 (by omega))
  go_wp2_with fail
  refine (atoi_any a _ hal.out hat.out).mono ?_
  rintro e w2 ⟨rfl, hB2⟩
  go_wp2_with fail
  go_ret2
  exact ⟨rfl, (by repeat (first | (with_reducible first | exact Below.refl _ _ | refine Below.setCell ?_ ?_ _ | refine below_drewN ?_ _ | refine Below.drew ?_ | refine below_alloc ?_ _ | refine below_trans'' (by assumption) ?_) | exact Nat.le_refl _ | (focus (simp; done)) | (focus (simp; omega)) | omega))⟩
set_option maxHeartbeats 400000 in
theorem short_small {q : Rat} (s : ByteArray) (w : World) (hG : Glo w) (hs : s.data.toList = ratText q) (hq : Small q) :
    Calls Tryz.prog 223 #[.string s] w (RetB (.bool true) w) := by
  have HS := Lib.hid hs
  have HG := Lib.hid hG
  clear hs hG
  go_enter Tryz.func223, Tryz.ntmps223
  go_wp2_with fail
  refine (Parts_small s _ HG.out HS.out hq).mono ?_
  rintro e w1 ⟨a, b, ha, hb, rfl, hB1⟩
  have hx := (trim_itoa q.num).1
  rw [← ha.out] at hx
  have HX := Lib.hid hx
  clear hx
  have hbl : (b.size : Int) ≤ 8 := by
    have h1 := nDigits_le8 hq.2
    have h2 : b.size = b.data.toList.length := rfl
    rw [h2, hb.out, Lib.decDigits_length]; omega
  go_wp2_with fail
  refine (trimPrefix_any a _ _ HX.out).mono ?_
  rintro e w2 ⟨o, ho, rfl, rfl⟩
  have hol : (o.size : Int) ≤ 8 := by
    have h1 := nDigits_le8 hq.1
    have h2 : o.size = o.data.toList.length := rfl
    rw [h2, ho.out, Lib.decDigits_length]; omega
  have hmx : max (o.size : Int) (b.size : Int) ≤ 36 := by omega
  go_wp2_with fail
  go_ret
  exact ⟨rfl, (by repeat (first | (with_reducible first | exact Below.refl _ _ | refine Below.setCell ?_ ?_ _ | refine below_drewN ?_ _ | refine Below.drew ?_ | refine below_alloc ?_ _ | refine below_trans'' (by assumption) ?_) | exact Nat.le_refl _ | (focus (simp; done)) | (focus (simp; omega)) | omega))⟩
set_option maxHeartbeats 400000 in
theorem order_small {p q : Rat} (s t : ByteArray) (w : World) (hs : s.data.toList = ratText p) (hp : Small p) (ht : t.data.toList = ratText q) (hq : Small q) :
    Calls Tryz.prog 224 #[.string s, .string t] w (RetB (.int .i64 (ordQ p q)) w) := by
  have HS := Lib.hid hs
  have HT := Lib.hid ht
  by_cases he : s.toList = t.toList
  · have hpq : p = q := by
      rw [Lib.toList_data, Lib.toList_data, hs, ht] at he
      exact ratText_inj hp hq he
    subst hpq
    have ho : Hid (ordQ p p = 0) := Lib.hid (by unfold ordQ; rw [if_neg Rat.lt_irrefl, if_neg Rat.lt_irrefl])
    have hE : (s.toList == t.toList) = true := by simpa using he
    clear hs ht he
    go_enter Tryz.func224, Tryz.ntmps224
    go_wp2_with fail
    go_ret
    exact ⟨by rw [ho.out]; rfl, (by repeat (first | (with_reducible first | exact Below.refl _ _ | refine Below.setCell ?_ ?_ _ | refine below_drewN ?_ _ | refine Below.drew ?_ | refine below_alloc ?_ _ | refine below_trans'' (by assumption) ?_) | exact Nat.le_refl _ | (focus (simp; done)) | (focus (simp; omega)) | omega))⟩
  · have hE : (s.toList == t.toList) = false := by simpa using he
    clear hs ht he
    go_enter Tryz.func224, Tryz.ntmps224
    go_wp2_with fail
    refine (Compare_small s t _ HS.out hp HT.out hq).mono ?_
    rintro e w1 ⟨rfl, hB1⟩
    go_wp2_with fail
    go_ret
    exact ⟨by rw [← compareInt_rat]; rfl, (by repeat (first | (with_reducible first | exact Below.refl _ _ | refine Below.setCell ?_ ?_ _ | refine below_drewN ?_ _ | refine Below.drew ?_ | refine below_alloc ?_ _ | refine below_trans'' (by assumption) ?_) | exact Nat.le_refl _ | (focus (simp; done)) | (focus (simp; omega)) | omega))⟩
end Go.Proofs.YtjpigaobeegbgaaGreatDoor
