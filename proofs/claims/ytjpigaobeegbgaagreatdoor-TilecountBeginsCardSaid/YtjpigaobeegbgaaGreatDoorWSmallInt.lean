/- Walks: integer's functions at short integers. -/
import Derived.Test.YtjpigaobeegbgaaGreatDoorWRead
import Derived.Test.YtjpigaobeegbgaaGreatDoorIntTxt
namespace Go.Proofs.YtjpigaobeegbgaaGreatDoor
open Go.RowKit
/-- an integer is returned, and OK -/
def RetI (n : Int) (w : World) (e : Ending) (w' : World) : Prop := ∃ r : ByteArray, r.data.toList = Lib.itoa n ∧ e = .returned (.tuple #[.string r, .int .i64 0]) ∧ Below w.heap.size w w'
set_option maxHeartbeats 400000 in
theorem ICheck_ok (n : Int) (s : ByteArray) (w : World) (hs : s.data.toList = Lib.itoa n) (hl : (Lib.decDigits n.natAbs).length ≤ 300) :
    Calls Tryz.prog 155 #[.string s] w (RetB (.int .i64 0) w) := by
  have hx := (trim_itoa n).1
  rw [← hs] at hx
  have HX := Lib.hid hx
  have HL := Lib.hid hl
  by_cases h0 : n = 0
  · have hz2 : (s.toList == [48]) = true := by rw [Lib.toList_data, hs, h0, itoa_zero]; rfl
    have HZ : Hid (Lib.decDigits n.natAbs = [48]) := Lib.hid (by rw [h0]; exact Lib.decDigits_one (by omega))
    clear h0 hs hx hl
    go_enter Tryz.func155, Tryz.ntmps155
    go_wp2_with fail
    refine (trimPrefix_any s _ _ HX.out).mono ?_
    rintro e w1 ⟨o, ho, rfl, rfl⟩
    have hol : (o.size : Int) ≤ 300 := by have h1 := HL.out; rw [← ho.out] at h1; have e : o.data.toList.length = o.size := rfl; omega
    have ho0 : ¬ o.size = 0 := fun h => by have h1 := HZ.out; rw [← ho.out, data_nil h] at h1; cases h1
    have e1 := toList_ne ho0
    have e2 := toList_isEmpty ho0
    have e3 : 0 < o.size := by omega
    have e4 : ((o[0].toNat : Int) == 48) = true := headqc' (c := 48) e3 (by rw [ho.out, HZ.out]; rfl)
    clear ho0
    go_wp2_with fail
    refine (trimDigits_any o _ (by omega) (trimS_digits _ (by rw [ho.out]; exact decDigits_isDig _))).mono ?_
    rintro e w2 ⟨a, ha, rfl, hB⟩
    have e5 := toList_nil (s := a) (congrArg List.length ha.out)
    go_wp2_with fail
    go_ret
    exact ⟨rfl, (by repeat (first | (with_reducible first | exact Below.refl _ _ | refine Below.setCell ?_ ?_ _ | refine below_drewN ?_ _ | refine Below.drew ?_ | refine below_alloc ?_ _ | refine below_trans'' (by assumption) ?_) | exact Nat.le_refl _ | (focus (simp; done)) | (focus (simp; omega)) | omega))⟩
  · have hz2 : Hid ((Lib.decDigits n.natAbs).head? ≠ some 48) := Lib.hid (decDigits_head' (by omega))
    clear h0 hs hx hl
    go_enter Tryz.func155, Tryz.ntmps155
    go_wp2_with fail
    refine (trimPrefix_any s _ _ HX.out).mono ?_
    rintro e w1 ⟨o, ho, rfl, rfl⟩
    have hol : (o.size : Int) ≤ 300 := by have h1 := HL.out; rw [← ho.out] at h1; have e : o.data.toList.length = o.size := rfl; omega
    have ho0 : ¬ o.size = 0 := fun h => decDigits_ne n.natAbs (by rw [← ho.out, data_nil h])
    have e1 := toList_ne ho0
    have e2 := toList_isEmpty ho0
    have e3 : 0 < o.size := by omega
    have e4 : ((o[0].toNat : Int) == 48) = false := by
      refine Bool.eq_false_iff.2 fun h => hz2.out ?_
      rw [← ho.out]; exact headq e3 h
    clear ho0
    go_wp2_with fail
    refine (trimDigits_any o _ (by omega) (trimS_digits _ (by rw [ho.out]; exact decDigits_isDig _))).mono ?_
    rintro e w2 ⟨a, ha, rfl, hB⟩
    have e5 := toList_nil (s := a) (congrArg List.length ha.out)
    go_wp2_with fail
    go_ret
    exact ⟨rfl, (by repeat (first | (with_reducible first | exact Below.refl _ _ | refine Below.setCell ?_ ?_ _ | refine below_drewN ?_ _ | refine Below.drew ?_ | refine below_alloc ?_ _ | refine below_trans'' (by assumption) ?_) | exact Nat.le_refl _ | (focus (simp; done)) | (focus (simp; omega)) | omega))⟩
set_option maxHeartbeats 400000 in
theorem Iboth_ok (x y : Int) (s t : ByteArray) (w : World) (hs : s.data.toList = Lib.itoa x) (hx : (Lib.decDigits x.natAbs).length ≤ 300) (ht : t.data.toList = Lib.itoa y) (hy : (Lib.decDigits y.natAbs).length ≤ 300) :
    Calls Tryz.prog 102 #[.string s, .string t] w (RetB (.int .i64 0) w) := by
  have HS := Lib.hid hs
  have HT := Lib.hid ht
  clear hs ht
  go_enter Tryz.func102, Tryz.ntmps102
  go_wp2_with fail
  refine (ICheck_ok x s _ HS.out hx).mono ?_
  rintro e w1 ⟨rfl, hB1⟩
  go_wp2_with fail
  refine (ICheck_ok y t _ HT.out hy).mono ?_
  rintro e w2 ⟨rfl, hB2⟩
  go_wp2_with fail
  go_ret
  exact ⟨rfl, (by repeat (first | (with_reducible first | exact Below.refl _ _ | refine Below.setCell ?_ ?_ _ | refine below_drewN ?_ _ | refine Below.drew ?_ | refine below_alloc ?_ _ | refine below_trans'' (by assumption) ?_) | exact Nat.le_refl _ | (focus (simp; done)) | (focus (simp; omega)) | omega))⟩
set_option maxHeartbeats 400000 in
theorem Ismall_ok (x y : Int) (s t : ByteArray) (w : World) (hs : s.data.toList = Lib.itoa x) (hx : s.size ≤ 18) (ht : t.data.toList = Lib.itoa y) (hy : t.size ≤ 18) :
    Calls Tryz.prog 103 #[.string s, .string t, .int .i64 18] w (RetB (.tuple #[.int .i64 x, .int .i64 y, .bool true]) w) := by
  have bx : x.natAbs < 10 ^ 18 := itoa_lt (by rw [← hs]; exact hx)
  have by' : y.natAbs < 10 ^ 18 := itoa_lt (by rw [← ht]; exact hy)
  have hax : Lib.atoiAll s.data.toList = .ok x := by rw [hs]; exact atoi_itoa (by omega) (by omega)
  have hay : Lib.atoiAll t.data.toList = .ok y := by rw [ht]; exact atoi_itoa (by omega) (by omega)
  have HAX := Lib.hid hax
  have HAY := Lib.hid hay
  clear hs ht hax hay bx by'
  go_enter Tryz.func103, Tryz.ntmps103
  go_wp2_with fail
  refine (atoi_any s _ (by omega) HAX.out).mono ?_
  rintro e w1 ⟨rfl, hB1⟩
  go_wp2_with fail
  refine (atoi_any t _ (by omega) HAY.out).mono ?_
  rintro e w2 ⟨rfl, hB2⟩
  go_wp2_with fail
  go_quiet (fail)
  go_wp2_with fail
  go_ret3
  exact ⟨rfl, (by repeat (first | (with_reducible first | exact Below.refl _ _ | refine Below.setCell ?_ ?_ _ | refine below_drewN ?_ _ | refine Below.drew ?_ | refine below_alloc ?_ _ | refine below_trans'' (by assumption) ?_) | exact Nat.le_refl _ | (focus (simp; done)) | (focus (simp; omega)) | omega))⟩
end Go.Proofs.YtjpigaobeegbgaaGreatDoor
