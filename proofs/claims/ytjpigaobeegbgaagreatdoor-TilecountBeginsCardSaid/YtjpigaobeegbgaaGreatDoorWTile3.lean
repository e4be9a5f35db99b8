/- The walk of tilecount.Course. -/
import Derived.Test.YtjpigaobeegbgaaGreatDoorWTile2
import Derived.BigQuiet
namespace Go.Proofs.YtjpigaobeegbgaaGreatDoor
open Go.RowKit
/-- how many whole tiles the first spans have -/
def fullTo (sp : List (Rat × Rat)) (wd : Int) (k : Nat) : Int := ((sp.take k).map (fun s => ((s.2 - s.1) / (wd : Rat)).floor)).sum
/-- how many cut tiles the first spans have -/
def cutTo (sp : List (Rat × Rat)) (wd : Int) (k : Nat) : Int := ((sp.take k).map (fun s => if ((s.2 - s.1) / (wd : Rat)).den = 1 then (0 : Int) else 1)).sum
theorem fullTo_zero (sp : List (Rat × Rat)) (wd : Int) : fullTo sp wd 0 = 0 := by simp [fullTo]
theorem cutTo_zero (sp : List (Rat × Rat)) (wd : Int) : cutTo sp wd 0 = 0 := by simp [cutTo]
theorem fullTo_succ (sp : List (Rat × Rat)) (wd : Int) {k : Nat} (h : k < sp.length) : fullTo sp wd (k + 1) = fullTo sp wd k + ((sp[k].2 - sp[k].1) / (wd : Rat)).floor := by
  unfold fullTo
  rw [List.take_succ_eq_append_getElem h, List.map_append, List.sum_append]; simp
theorem cutTo_succ (sp : List (Rat × Rat)) (wd : Int) {k : Nat} (h : k < sp.length) : cutTo sp wd (k + 1) = if ((sp[k].2 - sp[k].1) / (wd : Rat)).den = 1 then cutTo sp wd k else cutTo sp wd k + 1 := by
  unfold cutTo
  rw [List.take_succ_eq_append_getElem h, List.map_append, List.sum_append]
  simp only [List.map_cons, List.map_nil, List.sum_cons, List.sum_nil, Int.add_zero]
  split <;> simp
/-- spans whose steps are short -/
def GoodSteps (sp : List (Rat × Rat)) (wd : Int) : Prop := ∀ k (h : k < sp.length), 0 < sp[k].2 - sp[k].1 ∧ Small ((sp[k].2 - sp[k].1) / wd)
theorem floor_small' {q : Rat} (h : Small q) (h0 : 0 ≤ q) : 0 ≤ q.floor ∧ q.floor < 100000000 := by
  rw [Rat.floor_def]
  have h1 := h.1
  have h2 := q.den_pos
  have h3 : 0 ≤ q.num := Rat.num_nonneg.2 h0
  refine ⟨Int.ediv_nonneg h3 (by omega), ?_⟩
  have := Int.ediv_le_self (a := q.num) q.den h3
  omega
theorem fullTo_bds {sp : List (Rat × Rat)} {wd : Int} (h1 : 1 ≤ wd) (hg : GoodSteps sp wd) : ∀ k, k ≤ sp.length → 0 ≤ fullTo sp wd k ∧ fullTo sp wd k ≤ 100000000 * k ∧ 0 ≤ cutTo sp wd k ∧ cutTo sp wd k ≤ k := by
  intro k
  induction k with
  | zero => intro _; simp [fullTo_zero, cutTo_zero]
  | succ k ih =>
    intro hk
    obtain ⟨i1, i2, i3, i4⟩ := ih (by omega)
    obtain ⟨g1, g2⟩ := hg k (by omega)
    have hw : (0 : Rat) < wd := by exact_mod_cast h1
    have := floor_small' g2 (Rat.le_of_lt (by rw [Rat.div_def]; exact Rat.mul_pos g1 (Rat.inv_pos.2 hw)))
    rw [fullTo_succ _ _ (by omega), cutTo_succ _ _ (by omega)]
    split <;> omega
set_option maxRecDepth 100000 in
set_option maxHeartbeats 1600000 in
theorem Course_ok {lo hi : Rat} {sp : List (Rat × Rat)} (c : Value) (wd : Int) (w : World) (hG : Glo w) (hc : IsCourse w c lo hi sp) (hg : GoodCourse lo hi sp) (hst : GoodSteps sp wd) (h1 : 1 ≤ wd) (h2 : wd ≤ 2000) :
    Calls Tryz.prog 16 #[c, .int .i64 wd] w (RetB (.tuple #[.int .i64 (fullTo sp wd sp.length), .int .i64 (cutTo sp wd sp.length), .int .i64 0]) w) := by
  have hri := fun (w' : World) (hB : Below w.heap.size w w') => tright_ok c wd w' (hG.below hB) (hc.below hB) hg h1 h2
  obtain ⟨s, t, v, rfl, hs, ht, hv⟩ := hc
  obtain ⟨a, cap, rfl, hcap, hcells⟩ := id hv
  have HRI := Lib.hid hri
  have HG := Lib.hid hG
  have HC := Lib.hid hcells
  have HGC := Lib.hid hg
  have HST := Lib.hid hst
  have HBD := Lib.hid (fullTo_bds h1 hst)
  have hl64 := hg.len
  clear hs ht hv hG hcells hg hst hri
  go_enter Tryz.func16, Tryz.ntmps16
  go_wp2_with fail
  refine (HRI.out _ (by repeat (first | (with_reducible first | exact Below.refl _ _ | refine Below.setCell ?_ ?_ _ | refine below_drewN ?_ _ | refine Below.drew ?_ | refine below_alloc ?_ _ | refine below_trans'' (by assumption) ?_) | exact Nat.le_refl _ | (focus (simp; done)) | (focus (simp; omega)) | omega))).mono ?_
  rintro e w1 ⟨rfl, hB1⟩
  have hb1 : Below w.heap.size w w1 := (by repeat (first | (with_reducible first | exact Below.refl _ _ | refine Below.setCell ?_ ?_ _ | refine below_drewN ?_ _ | refine Below.drew ?_ | refine below_alloc ?_ _ | refine below_trans'' (by assumption) ?_) | exact Nat.le_refl _ | (focus (simp; done)) | (focus (simp; omega)) | omega))
  have c0 : w1.cell? ⟨w.heap.size, 0, none⟩ = some (.string s) := keep hB1 (by simp [go_sem])
  have c1 : w1.cell? ⟨w.heap.size, 1, none⟩ = some (.string t) := keep hB1 (by simp [go_sem])
  have c2 : w1.cell? ⟨w.heap.size, 2, none⟩ = some (.slice a sp.length cap) := keep hB1 (by simp [go_sem])
  have c3 : w1.cell? ⟨w.heap.size + 1, 0, none⟩ = some (.int .i64 wd) := keep hB1 (by simp [go_sem])
  have z1 := lt_of_cell c2
  have z2 := lt_of_cell c3
  go_wp2_with fail
  go_loopw [23] (fun i wr => ∃ k : Nat, k ≤ sp.length ∧ i = .int .i64 k ∧ Below w.heap.size w wr ∧ wr.cell? ⟨w.heap.size + 1, 0, none⟩ = some (.int .i64 wd) ∧ wr.cell? ⟨w1.heap.size, 0, none⟩ = some (.int .i64 (fullTo sp wd k)) ∧ wr.frozen? ⟨w1.heap.size, 0, none⟩ = false ∧ wr.cell? ⟨w1.heap.size + 1, 0, none⟩ = some (.int .i64 (cutTo sp wd k)) ∧ wr.frozen? ⟨w1.heap.size + 1, 0, none⟩ = false) (fun i _ => sp.length - (intOf i).toNat)
  case atStart =>
    refine ⟨0, by omega, rfl, (by repeat (first | (with_reducible first | exact Below.refl _ _ | refine Below.setCell ?_ ?_ _ | refine below_drewN ?_ _ | refine Below.drew ?_ | refine below_alloc ?_ _ | refine below_trans'' (by assumption) ?_) | exact Nat.le_refl _ | (focus (simp; done)) | (focus (simp; omega)) | omega)), ?_, ?_, ?_, ?_, ?_⟩
    all_goals simp [go_sem, fullTo_zero, cutTo_zero, *, World.cell?_setCell_far]
  case round =>
    obtain ⟨j, hj, rfl, hBj, kw, kf, kff, kc, kcf⟩ := hrel
    obtain ⟨bd1, bd2, bd3, bd4⟩ := HBD.out j hj
    by_cases hjn : j = sp.length
    · subst hjn
      go_wp2_with fail
      go_quiet (fail)
      go_wp2_with fail
      go_ret3
      exact ⟨rfl, (by repeat (first | (with_reducible first | exact Below.refl _ _ | refine Below.setCell ?_ ?_ _ | refine below_drewN ?_ _ | refine Below.drew ?_ | refine below_alloc ?_ _ | refine below_trans'' (by assumption) ?_) | exact Nat.le_refl _ | (focus (simp; done)) | (focus (simp; omega)) | omega))⟩
    · have hj1 : j < sp.length := by omega
      obtain ⟨b, off, rfl, hbb, hcc⟩ := HC.out (fun h => by rw [h] at hj1; simp at hj1)
      obtain ⟨u, v, e0, e1, hu, hv⟩ := hcc j hj1
      have q0 := keep hBj e0
      have q1 := keep hBj e1
      have HU := Lib.hid hu
      have HV := Lib.hid hv
      have hji : (j : Int) < (sp.length : Int) := by omega
      clear hu hv e0 e1 hjn hcc
      go_wp2_with fail
      refine (count_ok u v wd (fullTo sp wd j) (cutTo sp wd j) (w.heap.size + 1) w1.heap.size (w1.heap.size + 1) _ (HG.out.below (by repeat (first | (with_reducible first | exact Below.refl _ _ | refine Below.setCell ?_ ?_ _ | refine below_drewN ?_ _ | refine Below.drew ?_ | refine below_alloc ?_ _ | refine below_trans'' (by assumption) ?_) | exact Nat.le_refl _ | (focus (simp; done)) | (focus (simp; omega)) | omega))) HU.out HV.out (HGC.out.right.1 j hj1).1 (HGC.out.right.1 j hj1).2.1 (HGC.out.dif j hj1) h1 h2 (HST.out j hj1).2 ?_ (keep (below_alloc (Below.refl _ _) _) kw) (keep (below_alloc (Below.refl _ _) _) kf) (keep (below_alloc (Below.refl _ _) _) kc) (keepf (below_alloc (Below.refl _ _) _) kf kff) (keepf (below_alloc (Below.refl _ _) _) kc kcf) (by omega) (by omega) (by omega) (by omega) (by omega)).mono ?_
      · obtain ⟨g1, g2⟩ := HST.out j hj1
        have hw : (0 : Rat) < wd := by exact_mod_cast h1
        have := floor_small' g2 (Rat.le_of_lt (by rw [Rat.div_def]; exact Rat.mul_pos g1 (Rat.inv_pos.2 hw)))
        refine ⟨?_, by show 1 < 100000000; omega⟩
        show (((sp[j].2 - sp[j].1) / (wd : Rat)).floor).natAbs < 100000000
        omega
      rintro e w2 ⟨rfl, hB2, kf', kff', kc', kcf'⟩
      have hB2' : Below w.heap.size w w2 := (below_alloc hBj _).trans (hB2.mono (by omega))
      have kw' : w2.cell? ⟨w.heap.size + 1, 0, none⟩ = some (.int .i64 wd) := (hB2.cell (p := ⟨w.heap.size + 1, 0, none⟩) z2).trans (keep (below_alloc (Below.refl _ _) _) kw)
      rw [← fullTo_succ _ _ hj1] at kf'
      rw [← cutTo_succ _ _ hj1] at kc'
      clear hB2 kw kf kff kc kcf
      go_wp2_with fail
      go_roundw
      case rel => exact ⟨j + 1, by omega, by go_num, hB2', kw', kf', kff', kc', kcf'⟩
      case measure => simp [intOf]; omega
end Go.Proofs.YtjpigaobeegbgaaGreatDoor
