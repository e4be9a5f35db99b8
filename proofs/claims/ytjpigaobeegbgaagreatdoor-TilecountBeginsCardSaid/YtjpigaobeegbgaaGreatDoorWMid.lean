/- Walks: a short number compared with a longer integer. -/
import Derived.Test.YtjpigaobeegbgaaGreatDoorWCourse1
namespace Go.Proofs.YtjpigaobeegbgaaGreatDoor
open Go.RowKit
set_option maxRecDepth 100000 in
set_option maxHeartbeats 800000 in
theorem Imul_small (x y : Int) (s t : ByteArray) (w : World) (hG : Glo w) (hs : s.data.toList = Lib.itoa x) (ht : t.data.toList = Lib.itoa y) (hl : s.size + t.size ≤ 18) :
    Calls Tryz.prog 101 #[.string s, .string t] w (RetI (x * y) w) := by
  have hxl := dec_le_of_size hs (show s.size ≤ 18 by omega)
  have hyl := dec_le_of_size ht (show t.size ≤ 18 by omega)
  have hp : (x * y).natAbs < 10 ^ 18 := by
    have b1 : x.natAbs < 10 ^ s.size := itoa_lt (by rw [← hs]; exact Nat.le_refl _)
    have b2 : y.natAbs < 10 ^ t.size := itoa_lt (by rw [← ht]; exact Nat.le_refl _)
    rw [Int.natAbs_mul]
    calc x.natAbs * y.natAbs < 10 ^ s.size * 10 ^ t.size := Nat.mul_lt_mul'' b1 b2
      _ = 10 ^ (s.size + t.size) := (Nat.pow_add _ _ _).symm
      _ ≤ 10 ^ 18 := Nat.pow_le_pow_right (by omega) hl
  have HS := Lib.hid hs
  have HT := Lib.hid ht
  have HG := Lib.hid hG
  have hlz : ((s.size : Int) + (t.size : Int)) ≤ 18 := by omega
  clear hs ht hG
  go_enter Tryz.func101, Tryz.ntmps101
  go_wp2_with fail
  refine (Iboth_ok x y s t _ HS.out (by omega) HT.out (by omega)).mono ?_
  rintro e w1 ⟨rfl, hB1⟩
  go_wp2_with fail
  refine (Ismall_ok x y s t _ HS.out (by omega) HT.out (by omega)).mono ?_
  rintro e w2 ⟨rfl, hB2⟩
  have hp1 : -1000000000000000000 < x * y := by omega
  have hp2 : x * y < 1000000000000000000 := by omega
  clear hp
  go_wp2_with fail
  refine (itoa_any (x * y) (by omega) (by omega) _ (HG.out.below (by repeat (first | (with_reducible first | exact Below.refl _ _ | refine Below.setCell ?_ ?_ _ | refine below_drewN ?_ _ | refine Below.drew ?_ | refine below_alloc ?_ _ | refine below_trans'' (by assumption) ?_) | exact Nat.le_refl _ | (focus (simp; done)) | (focus (simp; omega)) | omega)))).mono ?_
  rintro e w3 ⟨r, hr, rfl, hB3⟩
  have HR := Lib.hid hr
  clear hr
  go_wp2_with fail
  go_ret2
  exact ⟨r, HR.out, rfl, (by repeat (first | (with_reducible first | exact Below.refl _ _ | refine Below.setCell ?_ ?_ _ | refine below_drewN ?_ _ | refine Below.drew ?_ | refine below_alloc ?_ _ | refine below_trans'' (by assumption) ?_) | exact Nat.le_refl _ | (focus (simp; done)) | (focus (simp; omega)) | omega))⟩
set_option maxRecDepth 100000 in
set_option maxHeartbeats 800000 in
theorem ICompare_small (x y : Int) (s t : ByteArray) (w : World) (hs : s.data.toList = Lib.itoa x) (hx : s.size ≤ 18) (ht : t.data.toList = Lib.itoa y) (hy : t.size ≤ 18) :
    Calls Tryz.prog 66 #[.string s, .string t] w (RetB (.tuple #[.int .i64 (Lib.compareInt x y), .int .i64 0]) w) := by
  have hxl := dec_le_of_size hs hx
  have hyl := dec_le_of_size ht hy
  have HS := Lib.hid hs
  have HT := Lib.hid ht
  clear hs ht
  go_enter Tryz.func66, Tryz.ntmps66
  go_wp2_with fail
  refine (Iboth_ok x y s t _ HS.out (by omega) HT.out (by omega)).mono ?_
  rintro e w1 ⟨rfl, hB1⟩
  go_wp2_with fail
  refine (Ismall_ok x y s t _ HS.out hx HT.out hy).mono ?_
  rintro e w2 ⟨rfl, hB2⟩
  go_wp2_with fail
  refine (Tryz.cmp_Compare_int _ _ _).mono ?_
  rintro e w3 ⟨rfl, rfl⟩
  go_wp2_with fail
  go_ret2
  exact ⟨rfl, (by repeat (first | (with_reducible first | exact Below.refl _ _ | refine Below.setCell ?_ ?_ _ | refine below_drewN ?_ _ | refine Below.drew ?_ | refine below_alloc ?_ _ | refine below_trans'' (by assumption) ?_) | exact Nat.le_refl _ | (focus (simp; done)) | (focus (simp; omega)) | omega))⟩
/-- an integer of 9 to 10 digits -/
def Mid (n : Int) : Prop := natOf (Lib.itoa n) = none ∧ n.natAbs < 10 ^ 10
theorem nativeOf_none (s : ByteArray) (w : World) (hs : s.size ≤ 1000) (h : natOf s.data.toList = none) :
    Calls Tryz.prog 62 #[.string s] w (RetB (.tuple #[.agg #[.int .i64 0, .int .i64 0], .bool false]) w) := by
  have := nativeOf_any s w (by unfold maxLen; omega)
  rw [natOfV, h] at this
  exact this
set_option maxRecDepth 100000 in
set_option maxHeartbeats 800000 in
theorem read_mid {n : Int} (s : ByteArray) (w : World) (hG : Glo w) (hs : s.data.toList = Lib.itoa n) (hn : Mid n) :
    Calls Tryz.prog 64 #[.string s] w (RetP (n : Rat) (.int .i64 0) w) := by
  have hsz : s.size ≤ 11 := by
    have h1 := itoa_len_le (n := n) (k := 10) hn.2 (by omega)
    have h2 : s.size = s.data.toList.length := rfl
    rw [h2, hs]; exact h1
  have hno : natOf s.data.toList = none := by rw [hs]; exact hn.1
  have hrt : s.data.toList = ratText (n : Rat) := by rw [hs, ratText_int]
  have HS := Lib.hid hrt
  have HN := Lib.hid hno
  have HG := Lib.hid hG
  have HM := Lib.hid hn
  clear hs hG hno hrt hn
  go_enter Tryz.func64, Tryz.ntmps64
  go_wp2_with fail
  refine (cut_valid s _ (HG.out.below (by repeat (first | (with_reducible first | exact Below.refl _ _ | refine Below.setCell ?_ ?_ _ | refine below_drewN ?_ _ | refine Below.drew ?_ | refine below_alloc ?_ _ | refine below_trans'' (by assumption) ?_) | exact Nat.le_refl _ | (focus (simp; done)) | (focus (simp; omega)) | omega))) HS.out (by omega)).mono ?_
  rintro e w1 ⟨a, b, ha, hb, rfl, hB1⟩
  have c0 : w1.cell? ⟨w.heap.size, 0, none⟩ = some (.string ⟨#[]⟩) := keep hB1 (by simp [go_sem])
  have c1 : w1.cell? ⟨w.heap.size, 1, none⟩ = some (.string ⟨#[]⟩) := keep hB1 (by simp [go_sem])
  have g0 : w1.frozen? ⟨w.heap.size, 0, none⟩ = false := keepf hB1 (v := .string ⟨#[]⟩) (by simp [go_sem]) (by simp [go_sem])
  have g1 : w1.frozen? ⟨w.heap.size, 1, none⟩ = false := keepf hB1 (v := .string ⟨#[]⟩) (by simp [go_sem]) (by simp [go_sem])
  have z1 := lt_of_cell c0
  go_wp2_with fail
  refine (nativeOf_none s _ (by omega) HN.out).mono ?_
  rintro e w2 ⟨rfl, hB2⟩
  have c0' : w2.cell? ⟨w.heap.size, 0, none⟩ = some (.string ⟨#[]⟩) := keep hB2 (keep (below_alloc (Below.refl _ _) _) c0)
  have c1' : w2.cell? ⟨w.heap.size, 1, none⟩ = some (.string ⟨#[]⟩) := keep hB2 (keep (below_alloc (Below.refl _ _) _) c1)
  have g0' : w2.frozen? ⟨w.heap.size, 0, none⟩ = false := keepf hB2 (keep (below_alloc (Below.refl _ _) _) c0) (keepf (below_alloc (Below.refl _ _) _) c0 g0)
  have g1' : w2.frozen? ⟨w.heap.size, 1, none⟩ = false := keepf hB2 (keep (below_alloc (Below.refl _ _) _) c1) (keepf (below_alloc (Below.refl _ _) _) c1 g1)
  have c2 : w2.cell? ⟨w1.heap.size, 0, none⟩ = some (.string a) := keep hB2 (by simp [go_sem])
  have c3 : w2.cell? ⟨w1.heap.size, 1, none⟩ = some (.string b) := keep hB2 (by simp [go_sem])
  have z2 := lt_of_cell c0'
  have z3 := lt_of_cell c2
  have hx := (trim_itoa n).1
  have ha' : a.data.toList = Lib.itoa n := ha.out
  rw [← ha'] at hx
  have HX := Lib.hid hx
  have hb1 : (b.toList == [49]) = true := eq_of_list (by rw [hb.out]; exact one_digits)
  have hbl : (b.size : Int) ≤ 300 := by
    have h2 : b.size = b.data.toList.length := rfl
    rw [h2, hb.out]
    rw [show (n : Rat).den = 1 from rfl, one_digits]; decide
  clear hx ha' c0 c1 g0 g1
  go_wp2_with fail
  refine (trimPrefix_any a _ _ HX.out).mono ?_
  rintro e w3 ⟨o, ho, rfl, rfl⟩
  have hol : (o.size : Int) ≤ 300 := by
    have h2 : o.size = o.data.toList.length := rfl
    have h3 := nDigits_le_of_lt HM.out.2 (by omega)
    rw [h2, ho.out, Lib.decDigits_length]; omega
  go_wp2_with fail
  refine bodyPost_ret (v := .tuple #[.agg #[.string a, .string b], .int .i64 0]) (by simp [results, Tryz.results64, go_sem, c0', c1', c2, c3, z2, z3]) rfl ⟨a, b, ha, hb, rfl, (by repeat (first | (with_reducible first | exact Below.refl _ _ | refine Below.setCell ?_ ?_ _ | refine below_drewN ?_ _ | refine Below.drew ?_ | refine below_alloc ?_ _ | refine below_trans'' (by assumption) ?_) | exact Nat.le_refl _ | (focus (simp; done)) | (focus (simp; omega)) | omega))⟩
end Go.Proofs.YtjpigaobeegbgaaGreatDoor
