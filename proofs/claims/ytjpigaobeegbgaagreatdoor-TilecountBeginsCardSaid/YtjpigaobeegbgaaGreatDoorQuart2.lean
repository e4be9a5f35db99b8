/- Plain: the beginnings of spans in quarters. -/
import Derived.Test.YtjpigaobeegbgaaGreatDoorQuart
namespace Go.Proofs.YtjpigaobeegbgaaGreatDoor
open Go
theorem offTo_prefix (sp : List (Rat × Rat)) (wd : Int) (odd : Bool) (Ns : Nat → Nat) {k N : Nat} (h : k ≤ N) : offTo sp wd odd Ns k <+: offTo sp wd odd Ns N := by
  induction h with
  | refl => exact List.prefix_refl _
  | step h ih => exact ih.trans (by simp [offTo, List.range_succ])
/-- a beginning by its number -/
theorem offTo_get {sp : List (Rat × Rat)} {wd : Int} {odd : Bool} {Ns : Nat → Nat} {k N j : Nat} (hk : k < sp.length) (hN : k < N) (hj : j < Ns k) :
    ∃ h : (offTo sp wd odd Ns k).length + j < (offTo sp wd odd Ns N).length, (offTo sp wd odd Ns N)[(offTo sp wd odd Ns k).length + j] = firstAt sp[k] wd odd + (j : Rat) * wd := by
  have hp := offTo_prefix sp wd odd Ns (show k + 1 ≤ N by omega)
  have e := offTo_succ sp wd odd Ns hk
  have hl : (offTo sp wd odd Ns (k + 1)).length = (offTo sp wd odd Ns k).length + Ns k := by rw [e, List.length_append, ats_length]
  have h1 : (offTo sp wd odd Ns k).length + j < (offTo sp wd odd Ns (k + 1)).length := by omega
  refine ⟨Nat.lt_of_lt_of_le h1 hp.length_le, ?_⟩
  rw [← hp.getElem h1]
  simp only [e]
  rw [List.getElem_append_right (by omega)]
  simp [ats]
theorem single_steps {s : Rat × Rat} {w : Int} {odd : Bool} {N : Nat} (h : StepsTo (firstAt s w odd) s.2 w N) : ∀ k (hk : k < [s].length), StepsTo (firstAt [s][k] w odd) [s][k].2 w ((fun _ => N) k) := fun k hk => by
  obtain rfl : k = 0 := by simp at hk; omega
  exact h
theorem offTo_single (s : Rat × Rat) (w : Int) (odd : Bool) (N : Nat) : offTo [s] w odd (fun _ => N) 1 = ats (firstAt s w odd) w N := by
  rw [offTo_succ _ _ _ _ (by simp)]; rfl
/-- one span alone -/
theorem Quart.one {sp : List (Rat × Rat)} {m n : Nat → Int} (h : Quart sp m n) {k : Nat} (hk : k < sp.length) : Quart [sp[k]] (fun _ => m k) (fun _ => n k) where
  len := by simp
  at' := fun j hj => by
    obtain rfl : j = 0 := by simp at hj; omega
    exact h.at' k hk
  n1 := fun j _ => h.n1 k hk
  m1 := fun j _ => h.m1 k hk
  gap := fun j hj => by simp at hj
/-- all that P48.3 asks, told in plain numbers -/
structure BeginsPlain (sp : List (Rat × Rat)) (w : Int) (Te To : Nat → Nat) (E O : List Rat) : Prop where
  tiles : ((E.length : Nat) : Int) = fullTo sp w sp.length + cutTo sp w sp.length
  le : E.length ≤ O.length
  ge : O.length ≤ E.length + sp.length
  most : E.length ≤ 2000
  own : ∀ k (h : k < sp.length), fullTo [sp[k]] w 1 + cutTo [sp[k]] w 1 = Te k ∧ 0 ≤ fullTo [sp[k]] w 1 ∧ fullTo [sp[k]] w 1 ≤ 1000 ∧ 0 ≤ cutTo [sp[k]] w 1 ∧ cutTo [sp[k]] w 1 ≤ 1 ∧ 1 ≤ Te k ∧ Te k ≤ 256 ∧ 1 ≤ To k ∧ To k ≤ 257
theorem sumTo_le {f g : Nat → Int} : ∀ k, (∀ i, i < k → f i ≤ g i) → sumTo f k ≤ sumTo g k
  | 0, _ => by simp [sumTo]
  | k + 1, h => by
    have := sumTo_le k (fun i hi => h i (by omega))
    have := h k (by omega)
    simp only [sumTo]; omega
theorem sumTo_one : ∀ k : Nat, sumTo (fun _ => 1) k = k
  | 0 => rfl
  | k + 1 => by have := sumTo_one k; simp only [sumTo]; omega
theorem Quart.plain {sp : List (Rat × Rat)} {m n : Nat → Int} (h : Quart sp m n) {w : Int} (w1 : 1 ≤ w) (w2 : w ≤ 2000) :
    BeginsPlain sp w (begins n w false) (begins n w true) (offTo sp w false (begins n w false) sp.length) (offTo sp w true (begins n w true) sp.length) := by
  have e1 := h.offLen w false sp.length (Nat.le_refl _)
  have e2 := h.offLen w true sp.length (Nat.le_refl _)
  have e3 := h.tiles w1 sp.length (Nat.le_refl _)
  have c1 : sumTo (fun i => ((begins n w false i : Nat) : Int)) sp.length = sumTo (fun k => up (n k) (4 * w)) sp.length := sumTo_congr _ (fun i hi => (begins_bds h w1 hi).1)
  have c2 : sumTo (fun i => ((begins n w false i : Nat) : Int)) sp.length ≤ sumTo (fun i => ((begins n w true i : Nat) : Int)) sp.length := sumTo_le _ (fun i hi => by have := begins_bds h w1 hi; omega)
  have c3 : sumTo (fun i => ((begins n w true i : Nat) : Int)) sp.length ≤ sumTo (fun i => ((begins n w false i : Nat) : Int) + 1) sp.length := sumTo_le _ (fun i hi => by have := begins_bds h w1 hi; omega)
  rw [← sumTo_add, sumTo_one] at c3
  refine ⟨by omega, by omega, by omega, ?_, fun k hk => ?_⟩
  · have := h.offMax w1 false sp.length (Nat.le_refl _)
    have := h.len
    omega
  · have hq := h.one hk
    have f1 := hq.full w1 1 (by simp)
    have f2 := hq.cut w1 1 (by simp)
    have f3 := hq.tiles w1 1 (by simp)
    have hn := h.n1 k hk
    have hb := begins_bds h w1 hk
    have k1 := Int.ediv_nonneg (show 0 ≤ n k by omega) (show 0 ≤ 4 * w by omega)
    have k3 := Int.ediv_le_self (4 * w) (show 0 ≤ n k by omega)
    have k4 := up_divInt (m := n k) (d := 4 * w) (by omega)
    rw [floor_divInt (by omega)] at k4
    simp only [sumTo] at f1 f2 f3
    rw [f1, f2]
    refine ⟨by omega, by omega, by omega, ?_, ?_, by omega, by omega, by omega, by omega⟩ <;> split at k4 <;> omega
end Go.Proofs.YtjpigaobeegbgaaGreatDoor
