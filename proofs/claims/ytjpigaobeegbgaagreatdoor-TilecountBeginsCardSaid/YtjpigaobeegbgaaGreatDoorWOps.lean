/- Walks: rational's sums, products, quotients at short numbers. -/
import Derived.Test.YtjpigaobeegbgaaGreatDoorWQuick
namespace Go.Proofs.YtjpigaobeegbgaaGreatDoor
open Go.RowKit
/-- a number is returned, and OK -/
def RetN (q : Rat) (w : World) (e : Ending) (w' : World) : Prop := ∃ r : ByteArray, r.data.toList = ratText q ∧ e = .returned (.tuple #[.string r, .int .i64 0]) ∧ Below w.heap.size w w'
theorem bds8 {n1 d1 n2 d2 : Int} (h1 : N8 n1 d1) (h2 : N8 n2 d2) : (-10000000000000000 < n1 * d2 ∧ n1 * d2 < 10000000000000000) ∧ (-10000000000000000 < n2 * d1 ∧ n2 * d1 < 10000000000000000) ∧ (-10000000000000000 < d1 * d2 ∧ d1 * d2 < 10000000000000000) ∧ (-10000000000000000 < n1 * n2 ∧ n1 * n2 < 10000000000000000) ∧ (-10000000000000000 < d1 * n2 ∧ d1 * n2 < 10000000000000000) := by
  obtain ⟨a1, a2, a3, a4⟩ := h1
  obtain ⟨b1, b2, b3, b4⟩ := h2
  exact ⟨mul8 n1 d2 a1 a2 (by omega) b4, mul8 n2 d1 b1 b2 (by omega) a4, mul8 d1 d2 (by omega) a4 (by omega) b4, mul8 n1 n2 a1 a2 b1 b2, mul8 d1 n2 (by omega) a4 b1 b2⟩

set_option maxHeartbeats 400000 in
theorem Add_small {p q : Rat} (s t : ByteArray) (w : World) (hG : Glo w) (hs : s.data.toList = ratText p) (hp : Small p) (ht : t.data.toList = ratText q) (hq : Small q) :
    Calls Tryz.prog 98 #[.string s, .string t] w (RetN (p + q) w) := by
  have hd : (p.den : Int) * q.den ≠ 0 := by have := hp.n8; have := hq.n8; unfold N8 at *; exact Int.ne_of_gt (Int.mul_pos (by omega) (by omega))
  obtain ⟨b1, b2, b3, b4⟩ := bds8 hp.n8 hq.n8
  have hr : Rat.divInt (p.num * q.den + q.num * p.den) ((p.den : Int) * q.den) = p + q := by rw [Rat.add_def', ← Rat.divInt_ofNat]; simp
  have HR := Lib.hid hr
  have HS := Lib.hid hs
  have HT := Lib.hid ht
  have HG := Lib.hid hG
  clear hr hs ht hG
  go_enter Tryz.func98, Tryz.ntmps98
  go_wp2_with fail
  refine (quick_small 152 (p.num * q.den + q.num * p.den) ((p.den : Int) * q.den) s t _ HG.out HS.out hp HT.out hq (enters_of Tryz.func152 (by kernel_rfl) rfl) (fun w => add1_any _ _ _ _ w hp.n8 hq.n8) hd (by omega) (by omega) (by omega) (by omega)).mono ?_
  rintro e w1 ⟨r, hr, rfl, hB1⟩
  rw [HR.out] at hr
  have HR2 := Lib.hid hr
  clear hr
  go_wp2_with fail
  go_ret2
  exact ⟨r, HR2.out, rfl, hB1⟩

set_option maxHeartbeats 400000 in
theorem Sub_small {p q : Rat} (s t : ByteArray) (w : World) (hG : Glo w) (hs : s.data.toList = ratText p) (hp : Small p) (ht : t.data.toList = ratText q) (hq : Small q) :
    Calls Tryz.prog 19 #[.string s, .string t] w (RetN (p - q) w) := by
  have hd : (p.den : Int) * q.den ≠ 0 := by have := hp.n8; have := hq.n8; unfold N8 at *; exact Int.ne_of_gt (Int.mul_pos (by omega) (by omega))
  obtain ⟨b1, b2, b3, b4⟩ := bds8 hp.n8 hq.n8
  have hr : Rat.divInt (p.num * q.den - q.num * p.den) ((p.den : Int) * q.den) = p - q := by rw [Rat.sub_def', ← Rat.divInt_ofNat]; simp
  have HR := Lib.hid hr
  have HS := Lib.hid hs
  have HT := Lib.hid ht
  have HG := Lib.hid hG
  clear hr hs ht hG
  go_enter Tryz.func19, Tryz.ntmps19
  go_wp2_with fail
  refine (quick_small 53 (p.num * q.den - q.num * p.den) ((p.den : Int) * q.den) s t _ HG.out HS.out hp HT.out hq (enters_of Tryz.func53 (by kernel_rfl) rfl) (fun w => sub1_any _ _ _ _ w hp.n8 hq.n8) hd (by omega) (by omega) (by omega) (by omega)).mono ?_
  rintro e w1 ⟨r, hr, rfl, hB1⟩
  rw [HR.out] at hr
  have HR2 := Lib.hid hr
  clear hr
  go_wp2_with fail
  go_ret2
  exact ⟨r, HR2.out, rfl, hB1⟩

set_option maxHeartbeats 400000 in
theorem Mul_small {p q : Rat} (s t : ByteArray) (w : World) (hG : Glo w) (hs : s.data.toList = ratText p) (hp : Small p) (ht : t.data.toList = ratText q) (hq : Small q) :
    Calls Tryz.prog 82 #[.string s, .string t] w (RetN (p * q) w) := by
  have hd : (p.den : Int) * q.den ≠ 0 := by have := hp.n8; have := hq.n8; unfold N8 at *; exact Int.ne_of_gt (Int.mul_pos (by omega) (by omega))
  obtain ⟨b1, b2, b3, b4⟩ := bds8 hp.n8 hq.n8
  have hr : Rat.divInt (p.num * q.num) ((p.den : Int) * q.den) = p * q := by rw [Rat.mul_def', ← Rat.divInt_ofNat]; simp
  have HR := Lib.hid hr
  have HS := Lib.hid hs
  have HT := Lib.hid ht
  have HG := Lib.hid hG
  clear hr hs ht hG
  go_enter Tryz.func82, Tryz.ntmps82
  go_wp2_with fail
  refine (quick_small 137 (p.num * q.num) ((p.den : Int) * q.den) s t _ HG.out HS.out hp HT.out hq (enters_of Tryz.func137 (by kernel_rfl) rfl) (fun w => mul1_any _ _ _ _ w hp.n8 hq.n8) hd (by omega) (by omega) (by omega) (by omega)).mono ?_
  rintro e w1 ⟨r, hr, rfl, hB1⟩
  rw [HR.out] at hr
  have HR2 := Lib.hid hr
  clear hr
  go_wp2_with fail
  go_ret2
  exact ⟨r, HR2.out, rfl, hB1⟩

end Go.Proofs.YtjpigaobeegbgaaGreatDoor
