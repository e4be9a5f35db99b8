/- Walks: what rational does with short numbers. -/
import Derived.Test.YtjpigaobeegbgaaGreatDoorWNum
namespace Go.Proofs.YtjpigaobeegbgaaGreatDoor
open Go.RowKit
theorem ratText_le {q : Rat} (h : Small q) : (ratText q).length ≤ 30 := by
  have l1 : (Lib.itoa q.num).length ≤ 9 := by
    have := nDigits_le8 h.1
    rcases itoa_cases q.num with ⟨_, e⟩ | ⟨_, e⟩ <;> rw [e] <;> simp [Lib.decDigits_length] <;> omega
  have l2 : (Lib.decDigits q.den).length ≤ 8 := by rw [Lib.decDigits_length]; exact nDigits_le8 h.2
  unfold ratText; split
  · omega
  · simp; omega
theorem nativeOf_small {q : Rat} (s : ByteArray) (w : World) (hs : s.data.toList = ratText q) (h : Small q) :
    Calls Tryz.prog 62 #[.string s] w (RetB (.tuple #[.agg #[.int .i64 q.num, .int .i64 q.den], .bool true]) w) := by
  have := nativeOf_any s w (by have h1 := ratText_le h; rw [← hs] at h1; have : s.size = s.data.toList.length := rfl; unfold maxLen; omega)
  rw [natOfV, hs, natOf_ratText h] at this
  exact this
def N8 (n d : Int) : Prop := -100000000 < n ∧ n < 100000000 ∧ 0 < d ∧ d < 100000000
theorem Small.n8 {q : Rat} (h : Small q) : N8 q.num q.den := by
  have := h.1; have := h.2; have := q.den_pos; unfold N8; omega
theorem mul8 (a b : Int) (a1 : -100000000 < a) (a2 : a < 100000000) (b1 : -100000000 < b) (b2 : b < 100000000) : -10000000000000000 < a * b ∧ a * b < 10000000000000000 := by
  have h1 : a.natAbs * b.natAbs < 100000000 * 100000000 := Nat.mul_lt_mul'' (by omega) (by omega)
  rw [← Int.natAbs_mul] at h1
  omega
set_option maxHeartbeats 400000 in
theorem add1_any (n1 d1 n2 d2 : Int) (w : World) (h1 : N8 n1 d1) (h2 : N8 n2 d2) :
    Calls Tryz.prog 152 #[.agg #[.int .i64 n1, .int .i64 d1], .agg #[.int .i64 n2, .int .i64 d2]] w (RetB (.agg #[.int .i64 (n1 * d2 + n2 * d1), .int .i64 (d1 * d2)]) w) := by
  obtain ⟨a1, a2, a3, a4⟩ := h1
  obtain ⟨b1, b2, b3, b4⟩ := h2
  obtain ⟨m1, m1'⟩ := mul8 n1 d2 a1 a2 (by omega) b4
  obtain ⟨m2, m2'⟩ := mul8 n2 d1 b1 b2 (by omega) a4
  obtain ⟨m3, m3'⟩ := mul8 d1 d2 (by omega) a4 (by omega) b4
  obtain ⟨m4, m4'⟩ := mul8 n1 n2 a1 a2 b1 b2
  obtain ⟨m5, m5'⟩ := mul8 d1 n2 (by omega) a4 b1 b2
  clear a1 a2 a3 a4 b1 b2 b3 b4
  go_enter Tryz.func152, Tryz.ntmps152
  go_wp2_with fail
  exact bodyPost_ret (v := .agg #[.int .i64 (n1 * d2 + n2 * d1), .int .i64 (d1 * d2)]) (by simp [results, Tryz.results152, go_sem]) rfl ⟨rfl, (by repeat (first | (with_reducible first | exact Below.refl _ _ | refine Below.setCell ?_ ?_ _ | refine below_drewN ?_ _ | refine Below.drew ?_ | refine below_alloc ?_ _ | refine below_trans'' (by assumption) ?_) | exact Nat.le_refl _ | (focus (simp; done)) | (focus (simp; omega)) | omega))⟩
set_option maxHeartbeats 400000 in
theorem sub1_any (n1 d1 n2 d2 : Int) (w : World) (h1 : N8 n1 d1) (h2 : N8 n2 d2) :
    Calls Tryz.prog 53 #[.agg #[.int .i64 n1, .int .i64 d1], .agg #[.int .i64 n2, .int .i64 d2]] w (RetB (.agg #[.int .i64 (n1 * d2 - n2 * d1), .int .i64 (d1 * d2)]) w) := by
  obtain ⟨a1, a2, a3, a4⟩ := h1
  obtain ⟨b1, b2, b3, b4⟩ := h2
  obtain ⟨m1, m1'⟩ := mul8 n1 d2 a1 a2 (by omega) b4
  obtain ⟨m2, m2'⟩ := mul8 n2 d1 b1 b2 (by omega) a4
  obtain ⟨m3, m3'⟩ := mul8 d1 d2 (by omega) a4 (by omega) b4
  obtain ⟨m4, m4'⟩ := mul8 n1 n2 a1 a2 b1 b2
  obtain ⟨m5, m5'⟩ := mul8 d1 n2 (by omega) a4 b1 b2
  clear a1 a2 a3 a4 b1 b2 b3 b4
  go_enter Tryz.func53, Tryz.ntmps53
  go_wp2_with fail
  exact bodyPost_ret (v := .agg #[.int .i64 (n1 * d2 - n2 * d1), .int .i64 (d1 * d2)]) (by simp [results, Tryz.results53, go_sem]) rfl ⟨rfl, (by repeat (first | (with_reducible first | exact Below.refl _ _ | refine Below.setCell ?_ ?_ _ | refine below_drewN ?_ _ | refine Below.drew ?_ | refine below_alloc ?_ _ | refine below_trans'' (by assumption) ?_) | exact Nat.le_refl _ | (focus (simp; done)) | (focus (simp; omega)) | omega))⟩
set_option maxHeartbeats 400000 in
theorem mul1_any (n1 d1 n2 d2 : Int) (w : World) (h1 : N8 n1 d1) (h2 : N8 n2 d2) :
    Calls Tryz.prog 137 #[.agg #[.int .i64 n1, .int .i64 d1], .agg #[.int .i64 n2, .int .i64 d2]] w (RetB (.agg #[.int .i64 (n1 * n2), .int .i64 (d1 * d2)]) w) := by
  obtain ⟨a1, a2, a3, a4⟩ := h1
  obtain ⟨b1, b2, b3, b4⟩ := h2
  obtain ⟨m1, m1'⟩ := mul8 n1 d2 a1 a2 (by omega) b4
  obtain ⟨m2, m2'⟩ := mul8 n2 d1 b1 b2 (by omega) a4
  obtain ⟨m3, m3'⟩ := mul8 d1 d2 (by omega) a4 (by omega) b4
  obtain ⟨m4, m4'⟩ := mul8 n1 n2 a1 a2 b1 b2
  obtain ⟨m5, m5'⟩ := mul8 d1 n2 (by omega) a4 b1 b2
  clear a1 a2 a3 a4 b1 b2 b3 b4
  go_enter Tryz.func137, Tryz.ntmps137
  go_wp2_with fail
  exact bodyPost_ret (v := .agg #[.int .i64 (n1 * n2), .int .i64 (d1 * d2)]) (by simp [results, Tryz.results137, go_sem]) rfl ⟨rfl, (by repeat (first | (with_reducible first | exact Below.refl _ _ | refine Below.setCell ?_ ?_ _ | refine below_drewN ?_ _ | refine Below.drew ?_ | refine below_alloc ?_ _ | refine below_trans'' (by assumption) ?_) | exact Nat.le_refl _ | (focus (simp; done)) | (focus (simp; omega)) | omega))⟩
set_option maxHeartbeats 400000 in
theorem div1_any (n1 d1 n2 d2 : Int) (w : World) (h1 : N8 n1 d1) (h2 : N8 n2 d2) :
    Calls Tryz.prog 94 #[.agg #[.int .i64 n1, .int .i64 d1], .agg #[.int .i64 n2, .int .i64 d2]] w (RetB (.agg #[.int .i64 (n1 * d2), .int .i64 (d1 * n2)]) w) := by
  obtain ⟨a1, a2, a3, a4⟩ := h1
  obtain ⟨b1, b2, b3, b4⟩ := h2
  obtain ⟨m1, m1'⟩ := mul8 n1 d2 a1 a2 (by omega) b4
  obtain ⟨m2, m2'⟩ := mul8 n2 d1 b1 b2 (by omega) a4
  obtain ⟨m3, m3'⟩ := mul8 d1 d2 (by omega) a4 (by omega) b4
  obtain ⟨m4, m4'⟩ := mul8 n1 n2 a1 a2 b1 b2
  obtain ⟨m5, m5'⟩ := mul8 d1 n2 (by omega) a4 b1 b2
  clear a1 a2 a3 a4 b1 b2 b3 b4
  go_enter Tryz.func94, Tryz.ntmps94
  go_wp2_with fail
  exact bodyPost_ret (v := .agg #[.int .i64 (n1 * d2), .int .i64 (d1 * n2)]) (by simp [results, Tryz.results94, go_sem]) rfl ⟨rfl, (by repeat (first | (with_reducible first | exact Below.refl _ _ | refine Below.setCell ?_ ?_ _ | refine below_drewN ?_ _ | refine Below.drew ?_ | refine below_alloc ?_ _ | refine below_trans'' (by assumption) ?_) | exact Nat.le_refl _ | (focus (simp; done)) | (focus (simp; omega)) | omega))⟩

set_option maxRecDepth 100000 in
set_option maxHeartbeats 800000 in
/-- 'quick', at a function that combines parts -/
theorem quick_small {p q : Rat} (F : Nat) (n d : Int) (s t : ByteArray) (w : World) (hG : Glo w) (hs : s.data.toList = ratText p) (hp : Small p) (ht : t.data.toList = ratText q) (hq : Small q)
    (hE : ∀ args w, (callFunc F args).run Tryz.prog w = .ok (.enter F args) w)
    (hF : ∀ w, Calls Tryz.prog F #[.agg #[.int .i64 p.num, .int .i64 p.den], .agg #[.int .i64 q.num, .int .i64 q.den]] w (RetB (.agg #[.int .i64 n, .int .i64 d]) w))
    (hd : d ≠ 0) (h1 : -4000000000000000000 ≤ n) (h2 : n ≤ 4000000000000000000) (h3 : -4000000000000000000 ≤ d) (h4 : d ≤ 4000000000000000000) :
    Calls Tryz.prog 52 #[.string s, .string t, .func (.func F) #[] #[]] w fun e w' => ∃ r : ByteArray, r.data.toList = ratText (Rat.divInt n d) ∧ e = .returned (.tuple #[.string r, .bool true]) ∧ Below w.heap.size w w' := by
  have HS := Lib.hid hs
  have HT := Lib.hid ht
  have HG := Lib.hid hG
  have HF := Lib.hid hF
  have HD := Lib.hid hd
  clear hs ht hG hF hd
  go_enter Tryz.func52, Tryz.ntmps52
  go_wp2_with fail
  refine (nativeOf_small s _ HS.out hp).mono ?_
  rintro e w1 ⟨rfl, hB1⟩
  go_wp2_with fail
  refine (nativeOf_small t _ HT.out hq).mono ?_
  rintro e w2 ⟨rfl, hB2⟩
  obtain ⟨hc2, hf2⟩ := bcell hB2
  have z2 := hB2.size
  simp only [World.size_alloc] at z2
  have c0 : w2.cell? ⟨w1.heap.size, 0, none⟩ = some (.int .i64 p.num) := by rw [hc2 _ _ (by simp)]; simp [go_sem]
  have c1 : w2.cell? ⟨w1.heap.size, 1, none⟩ = some (.int .i64 p.den) := by rw [hc2 _ _ (by simp)]; simp [go_sem]
  have z3 : w1.heap.size < w2.heap.size := by omega
  clear hc2 hf2
  go_wp2_with fail
  refine (HF.out _).mono ?_
  rintro e w3 ⟨rfl, hB3⟩
  have hB : Below w.heap.size w w3 := (by repeat (first | (with_reducible first | exact Below.refl _ _ | refine Below.setCell ?_ ?_ _ | refine below_drewN ?_ _ | refine Below.drew ?_ | refine below_alloc ?_ _ | refine below_trans'' (by assumption) ?_) | exact Nat.le_refl _ | (focus (simp; done)) | (focus (simp; omega)) | omega))
  go_wp2_with fail
  refine (number_any n d _ (HG.out.below hB) HD.out h1 h2 h3 h4).mono ?_
  rintro e w4 ⟨r, hr, rfl, hB4⟩
  have HR := Lib.hid hr
  clear hr
  go_wp2_with fail
  go_ret2
  exact ⟨r, HR.out, rfl, hB.trans (hB4.mono hB.size)⟩
end Go.Proofs.YtjpigaobeegbgaaGreatDoor
