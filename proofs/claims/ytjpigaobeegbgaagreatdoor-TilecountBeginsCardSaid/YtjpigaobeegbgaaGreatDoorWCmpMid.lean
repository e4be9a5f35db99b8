/- Walks: rational.Compare of a short number and a longer integer. -/
import Derived.Test.YtjpigaobeegbgaaGreatDoorWMid
namespace Go.Proofs.YtjpigaobeegbgaaGreatDoor
open Go.RowKit
theorem itoa_natCast (n : Nat) : Lib.itoa (n : Int) = Lib.decDigits n := by
  rcases itoa_cases n with ⟨h, _⟩ | ⟨_, e⟩
  · omega
  · rw [e]; rfl
/-- crossed products of short parts -/
def RetC (u v : Int) (w : World) (e : Ending) (w' : World) : Prop := ∃ r s : ByteArray, Hid (r.data.toList = Lib.itoa u) ∧ Hid (s.data.toList = Lib.itoa v) ∧ e = .returned (.tuple #[.string r, .string s, .int .i64 0]) ∧ Below w.heap.size w w'
set_option maxRecDepth 100000 in
set_option maxHeartbeats 800000 in
theorem crossed_ok (xn yn : Int) (xd yd : Nat) (a b c d : ByteArray) (w : World) (hG : Glo w) (ha : a.data.toList = Lib.itoa xn) (hb : b.data.toList = Lib.decDigits xd) (hc : c.data.toList = Lib.itoa yn) (hd : d.data.toList = Lib.decDigits yd) (h1 : a.size + d.size ≤ 18) (h2 : c.size + b.size ≤ 18) :
    Calls Tryz.prog 65 #[.agg #[.string a, .string b], .agg #[.string c, .string d]] w (RetC (xn * yd) (yn * xd) w) := by
  rw [← itoa_natCast] at hb hd
  have HA := Lib.hid ha
  have HB := Lib.hid hb
  have HC := Lib.hid hc
  have HD := Lib.hid hd
  have HG := Lib.hid hG
  clear hG ha hb hc hd
  go_enter Tryz.func65, Tryz.ntmps65
  go_wp2_with fail
  refine (Imul_small xn yd a d _ (HG.out.below (by repeat (first | (with_reducible first | exact Below.refl _ _ | refine Below.setCell ?_ ?_ _ | refine below_drewN ?_ _ | refine Below.drew ?_ | refine below_alloc ?_ _ | refine below_trans'' (by assumption) ?_) | exact Nat.le_refl _ | (focus (simp; done)) | (focus (simp; omega)) | omega))) HA.out HD.out h1).mono ?_
  rintro e w1 ⟨r, hr, rfl, hB1⟩
  have HR := Lib.hid hr
  clear hr
  have c1 : w1.cell? ⟨w.heap.size, 1, none⟩ = some (.string b) := keep hB1 (by simp [go_sem])
  have c2 : w1.cell? ⟨w.heap.size + 1, 0, none⟩ = some (.string c) := keep hB1 (by simp [go_sem])
  have z1 := lt_of_cell c1
  have z2 := lt_of_cell c2
  have hB1' : Below w.heap.size w w1 := (by repeat (first | (with_reducible first | exact Below.refl _ _ | refine Below.setCell ?_ ?_ _ | refine below_drewN ?_ _ | refine Below.drew ?_ | refine below_alloc ?_ _ | refine below_trans'' (by assumption) ?_) | exact Nat.le_refl _ | (focus (simp; done)) | (focus (simp; omega)) | omega))
  go_wp2_with fail
  refine (Imul_small yn xd c b _ (HG.out.below (by repeat (first | (with_reducible first | exact Below.refl _ _ | refine Below.setCell ?_ ?_ _ | refine below_drewN ?_ _ | refine Below.drew ?_ | refine below_alloc ?_ _ | refine below_trans'' (by assumption) ?_) | exact Nat.le_refl _ | (focus (simp; done)) | (focus (simp; omega)) | omega))) HC.out HB.out h2).mono ?_
  rintro e w2 ⟨s, hs, rfl, hB2⟩
  have HS := Lib.hid hs
  clear hs
  have hB2' : Below w.heap.size w w2 := (by repeat (first | (with_reducible first | exact Below.refl _ _ | refine Below.setCell ?_ ?_ _ | refine below_drewN ?_ _ | refine Below.drew ?_ | refine below_alloc ?_ _ | refine below_trans'' (by assumption) ?_) | exact Nat.le_refl _ | (focus (simp; done)) | (focus (simp; omega)) | omega))
  go_wp2_with fail
  go_ret3
  exact ⟨r, s, HR, HS, rfl, (by repeat (first | (with_reducible first | exact Below.refl _ _ | refine Below.setCell ?_ ?_ _ | refine below_drewN ?_ _ | refine Below.drew ?_ | refine below_alloc ?_ _ | refine below_trans'' (by assumption) ?_) | exact Nat.le_refl _ | (focus (simp; done)) | (focus (simp; omega)) | omega))⟩
set_option maxRecDepth 100000 in
set_option maxHeartbeats 1600000 in
theorem Compare_mid {p : Rat} {n : Int} (s t : ByteArray) (w : World) (hG : Glo w) (hs : s.data.toList = ratText p) (hp : Small p) (ht : t.data.toList = Lib.itoa n) (hn : Mid n) (h0 : 0 ≤ n) :
    Calls Tryz.prog 25 #[.string s, .string t] w (RetB (.tuple #[.int .i64 (Lib.compareInt p.num (n * p.den)), .int .i64 0]) w) := by
  have l1 : (Lib.itoa p.num).length ≤ 9 := itoa_len_le (k := 8) hp.1 (by omega)
  have l2 : (Lib.decDigits p.den).length ≤ 8 := by rw [Lib.decDigits_length]; exact nDigits_le_of_lt (k := 8) hp.2 (by omega)
  have l3 : (Lib.itoa n).length ≤ 10 := by
    rcases itoa_cases n with ⟨h, _⟩ | ⟨_, e⟩
    · omega
    · rw [e, Lib.decDigits_length]; exact nDigits_le_of_lt (k := 10) hn.2 (by omega)
  have hno : natOf t.data.toList = none := by rw [ht]; exact hn.1
  have tsz : t.size ≤ 10 := by
    have h2 : t.size = t.data.toList.length := rfl
    rw [h2, ht]; exact l3
  have bp : (n * (p.den : Int)).natAbs < 10 ^ 18 := by
    rw [Int.natAbs_mul]
    calc n.natAbs * (p.den : Int).natAbs < 10 ^ 10 * 10 ^ 8 := Nat.mul_lt_mul'' hn.2 (by have := hp.2; omega)
      _ = 10 ^ 18 := by decide
  have l4 : (Lib.itoa (n * (p.den : Int))).length ≤ 18 := by
    rcases itoa_cases (n * (p.den : Int)) with ⟨h, _⟩ | ⟨_, e⟩
    · have := Int.mul_nonneg h0 (Int.natCast_nonneg p.den); omega
    · rw [e, Lib.decDigits_length]; exact nDigits_le_of_lt (k := 18) bp (by omega)
  have HS := Lib.hid hs
  have HT := Lib.hid ht
  have HN := Lib.hid hno
  have HG := Lib.hid hG
  clear hG hs ht hno bp
  go_enter Tryz.func25, Tryz.ntmps25
  go_wp2_with fail
  refine (nativeOf_small s _ HS.out hp).mono ?_
  rintro e w1 ⟨rfl, hB1⟩
  have hb1 : Below w.heap.size w w1 := (by repeat (first | (with_reducible first | exact Below.refl _ _ | refine Below.setCell ?_ ?_ _ | refine below_drewN ?_ _ | refine Below.drew ?_ | refine below_alloc ?_ _ | refine below_trans'' (by assumption) ?_) | exact Nat.le_refl _ | (focus (simp; done)) | (focus (simp; omega)) | omega))
  go_wp2_with fail
  refine (nativeOf_none t _ (by omega) HN.out).mono ?_
  rintro e w2 ⟨rfl, hB2⟩
  have hb2 : Below w.heap.size w w2 := (by repeat (first | (with_reducible first | exact Below.refl _ _ | refine Below.setCell ?_ ?_ _ | refine below_drewN ?_ _ | refine Below.drew ?_ | refine below_alloc ?_ _ | refine below_trans'' (by assumption) ?_) | exact Nat.le_refl _ | (focus (simp; done)) | (focus (simp; omega)) | omega))
  go_wp2_with fail
  refine (read_small s _ (HG.out.below (by repeat (first | (with_reducible first | exact Below.refl _ _ | refine Below.setCell ?_ ?_ _ | refine below_drewN ?_ _ | refine Below.drew ?_ | refine below_alloc ?_ _ | refine below_trans'' (by assumption) ?_) | exact Nat.le_refl _ | (focus (simp; done)) | (focus (simp; omega)) | omega))) HS.out hp).mono ?_
  rintro e w3 ⟨a, b, ha, hb, rfl, hB3⟩
  have hb3 : Below w.heap.size w w3 := (by repeat (first | (with_reducible first | exact Below.refl _ _ | refine Below.setCell ?_ ?_ _ | refine below_drewN ?_ _ | refine Below.drew ?_ | refine below_alloc ?_ _ | refine below_trans'' (by assumption) ?_) | exact Nat.le_refl _ | (focus (simp; done)) | (focus (simp; omega)) | omega))
  go_wp2_with fail
  refine (read_mid t _ (HG.out.below (by repeat (first | (with_reducible first | exact Below.refl _ _ | refine Below.setCell ?_ ?_ _ | refine below_drewN ?_ _ | refine Below.drew ?_ | refine below_alloc ?_ _ | refine below_trans'' (by assumption) ?_) | exact Nat.le_refl _ | (focus (simp; done)) | (focus (simp; omega)) | omega))) HT.out hn).mono ?_
  rintro e w4 ⟨c, d, hc, hd, rfl, hB4⟩
  have hb4 : Below w.heap.size w w4 := (by repeat (first | (with_reducible first | exact Below.refl _ _ | refine Below.setCell ?_ ?_ _ | refine below_drewN ?_ _ | refine Below.drew ?_ | refine below_alloc ?_ _ | refine below_trans'' (by assumption) ?_) | exact Nat.le_refl _ | (focus (simp; done)) | (focus (simp; omega)) | omega))
  have c1 : w4.cell? ⟨w3.heap.size, 0, none⟩ = some (.string a) := keep hB4 (by simp [go_sem])
  have c2 : w4.cell? ⟨w3.heap.size, 1, none⟩ = some (.string b) := keep hB4 (by simp [go_sem])
  have z1 := lt_of_cell c1
  have sa : a.size ≤ 9 := by
    have h2 : a.size = a.data.toList.length := rfl
    rw [h2, ha.out]; exact l1
  have sb : b.size ≤ 8 := by
    have h2 : b.size = b.data.toList.length := rfl
    rw [h2, hb.out]; exact l2
  have sc : c.size ≤ 10 := by
    have h2 : c.size = c.data.toList.length := rfl
    rw [h2, hc.out]; exact l3
  have sd : d.size ≤ 1 := by
    have h2 : d.size = d.data.toList.length := rfl
    rw [h2, hd.out, show (n : Rat).den = 1 from rfl, one_digits]; decide
  go_wp2_with fail
  refine (crossed_ok p.num n p.den 1 a b c d _ (HG.out.below (by repeat (first | (with_reducible first | exact Below.refl _ _ | refine Below.setCell ?_ ?_ _ | refine below_drewN ?_ _ | refine Below.drew ?_ | refine below_alloc ?_ _ | refine below_trans'' (by assumption) ?_) | exact Nat.le_refl _ | (focus (simp; done)) | (focus (simp; omega)) | omega))) ha.out hb.out hc.out hd.out (by omega) (by omega)).mono ?_
  rintro e w5 ⟨u, v, hu, hv, rfl, hB5⟩
  have hb5 : Below w.heap.size w w5 := (by repeat (first | (with_reducible first | exact Below.refl _ _ | refine Below.setCell ?_ ?_ _ | refine below_drewN ?_ _ | refine Below.drew ?_ | refine below_alloc ?_ _ | refine below_trans'' (by assumption) ?_) | exact Nat.le_refl _ | (focus (simp; done)) | (focus (simp; omega)) | omega))
  have hu' : u.data.toList = Lib.itoa p.num := by rw [hu.out]; simp
  have su : u.size ≤ 9 := by
    have h2 : u.size = u.data.toList.length := rfl
    rw [h2, hu']; exact l1
  have sv : v.size ≤ 18 := by
    have h2 : v.size = v.data.toList.length := rfl
    rw [h2, hv.out]; exact l4
  have HU := Lib.hid hu'
  clear hu hu'
  go_wp2_with fail
  refine (ICompare_small p.num (n * p.den) u v _ HU.out (by omega) hv.out sv).mono ?_
  rintro e w6 ⟨rfl, hB6⟩
  have hb6 : Below w.heap.size w w6 := (by repeat (first | (with_reducible first | exact Below.refl _ _ | refine Below.setCell ?_ ?_ _ | refine below_drewN ?_ _ | refine Below.drew ?_ | refine below_alloc ?_ _ | refine below_trans'' (by assumption) ?_) | exact Nat.le_refl _ | (focus (simp; done)) | (focus (simp; omega)) | omega))
  go_wp2_with fail
  go_ret2
  exact ⟨rfl, (by repeat (first | (with_reducible first | exact Below.refl _ _ | refine Below.setCell ?_ ?_ _ | refine below_drewN ?_ _ | refine Below.drew ?_ | refine below_alloc ?_ _ | refine below_trans'' (by assumption) ?_) | exact Nat.le_refl _ | (focus (simp; done)) | (focus (simp; omega)) | omega))⟩
/-- 2^30 is an integer of ten digits -/
theorem mid_most : Mid 1073741824 := by
  refine ⟨?_, by decide⟩
  decide +kernel
end Go.Proofs.YtjpigaobeegbgaaGreatDoor
