/- Walks: slices.Equal of numbers; tilecount.Spare. -/
import Derived.Test.YtjpigaobeegbgaaGreatDoorWOffsets
namespace Go.Proofs.YtjpigaobeegbgaaGreatDoor
open Go.RowKit Go.Shelf
/-- a list of strings in memory -/
def IsStrs (w : World) (v : Value) (l : List ByteArray) : Prop := ∃ (a : Option Addr) (cap : Nat), v = .slice a l.length cap ∧
  (l ≠ [] → ∃ b off, a = some ⟨b, off, none⟩ ∧ ∀ k (h : k < l.length), w.cell? ⟨b, off + k, none⟩ = some (.string l[k]))
theorem IsStrs.below {w w' : World} {v : Value} {l : List ByteArray} (h : IsStrs w v l) (hB : Below w.heap.size w w') : IsStrs w' v l := by
  obtain ⟨a, cap, h1, h2⟩ := h
  refine ⟨a, cap, h1, fun hn => ?_⟩
  obtain ⟨b, off, e, hc⟩ := h2 hn
  exact ⟨b, off, e, fun k hk => keep hB (hc k hk)⟩
theorem isStrs_row {w : World} {B : Nat} {v : Value} {l : List Rat} (h : w.ownsRow B 38 1 v l.length (numVs l)) : IsStrs w v (l.map numS) := by
  rcases h.2 with ⟨rfl, hl⟩ | ⟨g, cap, cur, rfl, _, hg, h1, _, hs, ht⟩
  · obtain rfl : l = [] := List.length_eq_zero_iff.1 hl
    exact ⟨none, 0, rfl, fun h => absurd rfl h⟩
  · refine ⟨some ⟨g, 0, none⟩, cap, by simp, fun _ => ⟨g, 0, rfl, fun k hk => ?_⟩⟩
    have hk' : k < l.length := by simpa using hk
    have h2 : cur.toList[k]? = some (.string (numS l[k])) := by
      have h3 : (cur.toList.take (l.length * 1))[k]? = (numVs l)[k]? := by rw [ht]
      rw [List.getElem?_take_of_lt (by omega)] at h3
      rw [h3]; simp [numVs, hk']
    have h4 : cur[k]? = some (.string (numS l[k])) := by simpa using h2
    simp [World.cell?, hg, h4]
set_option maxRecDepth 100000 in
set_option maxHeartbeats 800000 in
theorem Equal_any (xs ys : List ByteArray) (u v : Value) (w : World) (hu : IsStrs w u xs) (hv : IsStrs w v ys) (hl : xs.length ≤ 100000) :
    Calls Tryz.prog 23 #[u, v] w (RetB (.bool (decide (xs = ys))) w) := by
  obtain ⟨a, cap, rfl, ha⟩ := hu
  obtain ⟨b, cap', rfl, hb⟩ := hv
  have HA := Lib.hid ha
  have HB := Lib.hid hb
  clear ha hb
  by_cases hn : xs.length = ys.length
  · have hne : ((xs.length : Int) == (ys.length : Int)) = true := by simp [hn]
    generalize hR : decide (xs = ys) = R
    have HR := Lib.hid hR
    have HN := Lib.hid hn
    clear hR hn
    go_enter Tryz.func23, Tryz.ntmps23
    go_wp2_with fail
    go_loopw [13] (fun i wr => ∃ k : Nat, k ≤ xs.length ∧ i = .int .i64 k ∧ Below w.heap.size w wr ∧ Hid (∀ m (h1 : m < xs.length) (h2 : m < ys.length), m < k → xs[m] = ys[m])) (fun i _ => xs.length - (intOf i).toNat)
    case atStart => exact ⟨0, by omega, rfl, Below.refl _ _, Lib.hid (by intro m _ _ h; omega)⟩
    case round =>
      obtain ⟨k, hk, rfl, hBk, hsame⟩ := hrel
      by_cases hkn : k = xs.length
      · have hR1 : R = true := by
          rw [← HR.out, decide_eq_true_eq]
          refine List.ext_getElem HN.out (fun m h1 h2 => hsame.out m h1 h2 (by omega))
        subst hkn
        subst hR1
        go_wp2_with fail
        go_ret
        exact ⟨rfl, hBk⟩
      · have hk1 : k < xs.length := by omega
        have hk2 : k < ys.length := by have := HN.out; omega
        obtain ⟨ba, oa, rfl, hca⟩ := HA.out (fun h => by rw [h] at hk1; simp at hk1)
        obtain ⟨bb, ob, rfl, hcb⟩ := HB.out (fun h => by rw [h] at hk2; simp at hk2)
        have q1 := keep hBk (hca k hk1)
        have q2 := keep hBk (hcb k hk2)
        have i1 : (k : Int) < (xs.length : Int) := by omega
        have i2 : (k : Int) < (ys.length : Int) := by omega
        clear hca hcb
        by_cases he : xs[k] = ys[k]
        · have hE : (xs[k].toList == ys[k].toList) = true := by rw [he]; simp
          clear he
          have hsame' : Hid (∀ m (h1 : m < xs.length) (h2 : m < ys.length), m < k + 1 → xs[m] = ys[m]) := Lib.hid (fun m h1 h2 h3 => by
            by_cases hm : m < k
            · exact hsame.out m h1 h2 hm
            · obtain rfl : m = k := by omega
              have h4 : xs[m].data.toList = ys[m].data.toList := by rw [← Lib.toList_data, ← Lib.toList_data]; simpa using hE
              exact ByteArray.ext (Array.toList_inj.1 h4))
          go_wp2_with fail
          go_quiet (fail)
          go_wp2_with fail
          go_roundw
          case rel => exact ⟨k + 1, by omega, by go_num, (by repeat (first | (with_reducible first | exact Below.refl _ _ | refine Below.setCell ?_ ?_ _ | refine below_drewN ?_ _ | refine Below.drew ?_ | refine below_alloc ?_ _ | refine below_trans'' (by assumption) ?_) | exact Nat.le_refl _ | (focus (simp; done)) | (focus (simp; omega)) | omega)), hsame'⟩
          case measure => simp [intOf]; omega
        · have hE : (xs[k].toList == ys[k].toList) = false := by
            have h4 : xs[k].data.toList ≠ ys[k].data.toList := fun h => he (ByteArray.ext (Array.toList_inj.1 h))
            rw [Lib.toList_data, Lib.toList_data]; simpa using h4
          have hR1 : R = false := by
            rw [← HR.out, decide_eq_false_iff_not]
            intro h
            exact he (by simp only [h])
          subst hR1
          clear he
          go_wp2_with fail
          go_quiet (fail)
          go_wp2_with fail
          go_ret
          exact ⟨rfl, (by repeat (first | (with_reducible first | exact Below.refl _ _ | refine Below.setCell ?_ ?_ _ | refine below_drewN ?_ _ | refine Below.drew ?_ | refine below_alloc ?_ _ | refine below_trans'' (by assumption) ?_) | exact Nat.le_refl _ | (focus (simp; done)) | (focus (simp; omega)) | omega))⟩
  · have hne : ((xs.length : Int) == (ys.length : Int)) = false := by simp; omega
    have hR : decide (xs = ys) = false := by
      rw [decide_eq_false_iff_not]
      intro h
      exact hn (by rw [h])
    rw [hR]
    have hn' : ¬ ((xs.length : Int) = (ys.length : Int)) := by omega
    clear hR
    go_enter Tryz.func23, Tryz.ntmps23
    go_wp2_with fail
    go_ret
    exact ⟨rfl, Below.refl _ _⟩
set_option maxHeartbeats 800000 in
theorem Spare_ok (n p : Int) (w : World) (h1 : 0 ≤ n) (h2 : n ≤ 1073741824) (h3 : 0 ≤ p) (h4 : p ≤ 100) :
    Calls Tryz.prog 21 #[.int .i64 n, .int .i64 p] w (RetB (.tuple #[.int .i64 (n + (n * p + 99) / 100), .int .i64 0]) w) := by
  have b1 : n * p ≤ 1073741824 * 100 := Int.mul_le_mul h2 h4 h3 (by omega)
  have b0 : 0 ≤ n * p := Int.mul_nonneg h1 h3
  have hq : (n * p + 99).tdiv 100 = (n * p + 99) / 100 := Int.tdiv_eq_ediv_of_nonneg (by omega)
  have d1 : decide (n < 0) = false := by simp; omega
  have d2 : decide (1073741824 < n) = false := by simp; omega
  have d3 : decide (p < 0) = false := by simp; omega
  have d4 : decide (100 < p) = false := by simp; omega
  have w1 : IntKind.i64.wrap (n * p) = n * p := IntWalk.i64_in _ (by omega)
  have w2 : IntKind.i64.wrap (n * p + 99) = n * p + 99 := IntWalk.i64_in _ (by omega)
  have hb : 0 ≤ (n * p + 99) / 100 ∧ (n * p + 99) / 100 ≤ 1073741824 := by omega
  generalize (n * p + 99) / 100 = Q at *
  have w3 : IntKind.i64.wrap (n + Q) = n + Q := IntWalk.i64_in _ (by omega)
  have w4 : IntKind.i64.wrap Q = Q := IntWalk.i64_in _ (by omega)
  go_enter Tryz.func21, Tryz.ntmps21
  go_wp2_with fail
  go_ret2
  exact ⟨rfl, Below.refl _ _⟩
end Go.Proofs.YtjpigaobeegbgaaGreatDoor
