/- Plain: the fall of even outlets; a further outlet never makes it greater. -/
import Derived.Test.YtjpigaobeegbgaaGreatDoorWFall
import Derived.Test.YtjpigaobeegbgaaGreatDoorWInsert
set_option linter.unusedVariables false
set_option linter.unusedSimpArgs false
namespace Go.Proofs.YtjpigaobeegbgaaGreatDoor
open Go.RowKit Go.Shelf
theorem small_div {m d : Int} (hm : m.natAbs < 100000000) (h0 : 0 < d) (hd : d < 100000000) : Small (Rat.divInt m d) := by
  obtain ⟨a, b, g, _, g0, e1, e2, b0, n1, n2, _, _⟩ := divInt_parts m d h0
  have hg : 1 ≤ g := g0
  refine ⟨?_, ?_⟩
  · rw [n1]
    have : m.natAbs = a.natAbs * g := by rw [e1, Int.natAbs_mul]; rfl
    have := Nat.le_mul_of_pos_right a.natAbs g0
    omega
  · have : b ≤ d := by
      rw [e2]
      have h1 : b * 1 ≤ b * (g : Int) := Int.mul_le_mul_of_nonneg_left (by omega) (by omega)
      omega
    omega
/-- m parts of which d are a whole one -/
def qE (d m : Int) : Rat := (m : Rat) / (d : Rat)
theorem qE_eq (d m : Int) : qE d m = Rat.divInt m d := (Rat.divInt_eq_div m d).symm
theorem qE_ne {d : Int} (h : 0 < d) : (d : Rat) ≠ 0 := by
  intro h0
  have : d = 0 := by exact_mod_cast h0
  omega
theorem qE_pos {d : Int} (h : 0 < d) : (0 : Rat) < (d : Rat) := by exact_mod_cast h
theorem qE_sub (d a b : Int) : qE d a - qE d b = qE d (a - b) := by unfold qE; rw [Rat.intCast_sub]; grind
theorem qE_int {d : Int} (h : 0 < d) (n : Int) : (n : Rat) = qE d (d * n) := by
  have := qE_ne h
  unfold qE; rw [Rat.intCast_mul]; grind
theorem qE_two {d : Int} (h : 0 < d) (a : Int) : qE d a = qE (2 * d) (2 * a) := by
  have := qE_ne h
  unfold qE; rw [Rat.intCast_mul, Rat.intCast_mul]; have : ((2 : Int) : Rat) = 2 := rfl; rw [this]; grind
theorem qE_half {d : Int} (h : 0 < d) (a : Int) : qE d a / 2 = qE (2 * d) a := by
  have := qE_ne h
  unfold qE; rw [Rat.intCast_mul]; have : ((2 : Int) : Rat) = 2 := rfl; rw [this]; grind
theorem qE_over {d k : Int} (h : 0 < d) (hk : 0 < k) (a : Int) : qE d a / (k : Rat) = qE (d * k) a := by
  have := qE_ne h
  have := qE_ne hk
  unfold qE; rw [Rat.intCast_mul]; grind
theorem qE_lt {d a b : Int} (h : 0 < d) : qE d a < qE d b ↔ a < b := by
  have h1 := qE_pos h
  rw [← Rat.intCast_lt_intCast]
  unfold qE
  constructor
  · intro h2
    have h3 := Rat.mul_lt_mul_of_pos_right h2 h1
    rwa [Rat.div_mul_cancel (qE_ne h), Rat.div_mul_cancel (qE_ne h)] at h3
  · intro h2
    rw [Rat.div_def, Rat.div_def]
    exact Rat.mul_lt_mul_of_pos_right h2 (Rat.inv_pos.2 h1)
theorem qE_le {d a b : Int} (h : 0 < d) : qE d a ≤ qE d b ↔ a ≤ b := by
  rw [← Rat.not_lt, ← Int.not_lt, qE_lt h]
theorem qE_small {d m : Int} (h0 : 0 < d) (hd : d < 100000000) (hm : m.natAbs < 100000000) : Small (qE d m) := by rw [qE_eq]; exact small_div hm h0 hd
/-- outlets by their numerators -/
structure Outs (l : List Rat) (E lo hi : Int) (m : Nat) (e : Nat → Int) : Prop where
  len : l.length = m
  m1 : 1 ≤ m
  m2 : m ≤ 200
  e1 : 1 ≤ E
  e2 : E ≤ 400
  get : ∀ j (h : j < l.length), l[j] = qE E (e j)
  l0 : 0 ≤ lo
  lh : lo ≤ hi
  h2 : hi ≤ 200
  asc : ∀ j, j + 1 < m → e j < e (j + 1)
  low : E * lo ≤ e 0
  high : e (m - 1) ≤ E * hi
section
variable {l : List Rat} {E lo hi : Int} {m : Nat} {e : Nat → Int}
theorem Outs.mono (h : Outs l E lo hi m e) : ∀ i j, i ≤ j → j < m → e i ≤ e j := by
  intro i j hij
  induction hij with
  | refl => intro _; omega
  | step hij ih => intro hj; have h2 := h.asc _ hj; exact Int.le_trans (ih (by omega)) (Int.le_of_lt h2)
theorem Outs.lt (h : Outs l E lo hi m e) {i j : Nat} (hij : i < j) (hj : j < m) : e i < e j := by
  have := h.asc i (by omega)
  have := h.mono (i + 1) j hij hj
  omega
theorem Outs.rng (h : Outs l E lo hi m e) {j : Nat} (hj : j < m) : E * lo ≤ e j ∧ e j ≤ E * hi ∧ 0 ≤ E * lo ∧ E * hi ≤ 80000 := by
  have h1 := h.mono 0 j (by omega) hj
  have h2 := h.mono j (m - 1) (by omega) (by have := h.m1; omega)
  have h3 := h.low
  have h4 := h.high
  have h5 : 0 ≤ E * lo := Int.mul_nonneg (by have := h.e1; omega) h.l0
  have h6 : E * hi ≤ 400 * 200 := Int.mul_le_mul h.e2 h.h2 (by have := h.l0; have := h.lh; omega) (by omega)
  omega
theorem Outs.getD (h : Outs l E lo hi m e) {j : Nat} (hj : j < m) : l.getD j 0 = qE E (e j) := by
  rw [getD_eq (by rw [h.len]; exact hj)]; exact h.get j _
/-- a way over twice the parts -/
def InW (E : Int) (q : Rat) : Prop := ∃ a : Int, q = qE (2 * E) a ∧ 0 ≤ a ∧ a ≤ 160000
theorem Outs.first (h : Outs l E lo hi m e) : l.getD 0 0 - (lo : Rat) = qE E (e 0 - E * lo) := by
  rw [h.getD (by have := h.m1; omega), qE_int (d := E) (by have := h.e1; omega) lo, qE_sub]
theorem waysOf_length (h : Outs l E lo hi m e) : (waysOf l hi).length = m := by
  unfold waysOf; rw [List.length_append, halvesTo_length, h.len]; have := h.m1; simp; omega
theorem Outs.way (h : Outs l E lo hi m e) {k : Nat} (hk : k < (waysOf l hi).length) : (waysOf l hi)[k] = if k + 1 < m then qE (2 * E) (e (k + 1) - e k) else qE E (E * hi - e (m - 1)) := by
  have hE : 0 < E := by have := h.e1; omega
  have hm : l.length - 1 = m - 1 := by rw [h.len]
  have hk' : k < m := by rw [waysOf_length h] at hk; exact hk
  have e : (waysOf l hi)[k]? = some (if k + 1 < m then qE (2 * E) (e (k + 1) - e k) else qE E (E * hi - e (m - 1))) := by
    unfold waysOf
    rw [hm]
    split
    · rename_i h1
      rw [List.getElem?_append_left (by rw [halvesTo_length]; omega)]
      unfold halvesTo
      rw [List.getElem?_map, List.getElem?_range (by omega)]
      simp only [Option.map_some, Option.some.injEq]
      rw [h.getD h1, h.getD (by omega), qE_sub, qE_half hE]
    · rename_i h1
      rw [List.getElem?_append_right (by rw [halvesTo_length]; omega), halvesTo_length, show k - (m - 1) = 0 by omega]
      simp only [List.getElem?_cons_zero, Option.some.injEq]
      rw [h.getD (by omega), qE_int hE hi, qE_sub]
  exact (List.getElem?_eq_some_iff.1 e).2
theorem Outs.wayIn (h : Outs l E lo hi m e) {k : Nat} (hk : k < (waysOf l hi).length) : InW E (waysOf l hi)[k] := by
  have hE : 0 < E := by have := h.e1; omega
  have hk' : k < m := by rw [waysOf_length h] at hk; exact hk
  rw [h.way hk]
  have r1 := h.rng (j := k) hk'
  have r3 := h.rng (j := m - 1) (by omega)
  split
  · rename_i h1
    have r2 := h.rng (j := k + 1) h1
    have := h.asc k h1
    exact ⟨_, rfl, by omega, by omega⟩
  · rw [qE_two hE]
    exact ⟨_, rfl, by omega, by omega⟩
theorem Outs.firstIn (h : Outs l E lo hi m e) : InW E (l.getD 0 0 - (lo : Rat)) := by
  have hE : 0 < E := by have := h.e1; omega
  rw [h.first, qE_two hE]
  have r1 := h.rng (j := 0) (by have := h.m1; omega)
  exact ⟨_, rfl, by omega, by omega⟩
theorem InW.small {q : Rat} (h : InW E q) (h1 : 1 ≤ E) (h2 : E ≤ 400) : Small q := by
  obtain ⟨a, rfl, h3, h4⟩ := h
  exact qE_small (by omega) (by omega) (by omega)
theorem InW.over {q : Rat} (h : InW E q) (h1 : 1 ≤ E) (h2 : E ≤ 400) {k : Int} (hk1 : 1 ≤ k) (hk2 : k ≤ 256) : Small (q / (k : Rat)) := by
  obtain ⟨a, rfl, h3, h4⟩ := h
  rw [qE_over (by omega) (by omega)]
  have h5 : 2 * E * k ≤ 800 * 256 := Int.mul_le_mul (by omega) hk2 (by omega) (by omega)
  have h6 : 0 < 2 * E * k := Int.mul_pos (by omega) (by omega)
  exact qE_small h6 (by omega) (by omega)
theorem Outs.ok (h : Outs l E lo hi m e) : FallOk l lo hi := by
  have hE : 0 < E := by have := h.e1; omega
  have hE2 := h.e2
  refine ⟨⟨by rw [h.len]; exact h.m2, fun k hk => ?_, fun i j hi' hj hij => ?_⟩, by rw [h.len]; exact h.m1, h.l0, h.lh, h.h2, fun k hk => ?_, ?_, fun j hj => ?_, fun k hk => (h.wayIn hk).small h.e1 h.e2⟩
  · rw [h.get k hk]
    have r := h.rng (j := k) (by rw [← h.len]; exact hk)
    exact qE_small hE (by omega) (by omega)
  · rw [h.get i hi', h.get j hj, qE_lt hE]
    exact h.lt hij (by rw [← h.len]; exact hj)
  · rw [h.get k hk, qE_int hE lo, qE_int hE hi, qE_le hE, qE_le hE]
    have r := h.rng (j := k) (by rw [← h.len]; exact hk)
    omega
  · exact h.firstIn.small h.e1 h.e2
  · rw [h.len] at hj
    rw [h.getD hj, h.getD (by omega), qE_sub]
    have r1 := h.rng (j := j) (by omega)
    have r2 := h.rng (j := j + 1) hj
    exact qE_small hE (by omega) (by omega)
theorem mostTo_in {B : Rat} {T : List Rat} {p : Rat → Prop} (hB : p B) (hT : ∀ k (h : k < T.length), p T[k]) : ∀ k, k ≤ T.length → p (mostTo B T k) := by
  intro k
  induction k with
  | zero => intro _; exact hB
  | succ k ih =>
    intro hk
    rw [mostTo_succ B T (by omega)]
    unfold maxQ
    split
    · exact hT k (by omega)
    · exact ih (by omega)
theorem mostTo_ge (B : Rat) (T : List Rat) : ∀ k, k ≤ T.length → B ≤ mostTo B T k := by
  intro k
  induction k with
  | zero => intro _; exact Rat.le_refl
  | succ k ih =>
    intro hk
    rw [mostTo_succ B T (by omega)]
    have := ih (by omega)
    unfold maxQ
    split
    · rename_i h; exact Rat.le_trans this (Rat.le_of_lt h)
    · exact this
theorem Outs.fallIn (h : Outs l E lo hi m e) : InW E (fallOf l lo hi) := mostTo_in h.firstIn (fun k hk => h.wayIn hk) _ (Nat.le_refl _)
/-- no way is longer than so many parts -/
structure Ways (E lo hi : Int) (m : Nat) (e : Nat → Int) (D : Int) : Prop where
  first : e 0 - E * lo ≤ D
  gaps : ∀ j, j + 1 < m → e (j + 1) - e j ≤ 2 * D
  last : E * hi - e (m - 1) ≤ D
theorem Outs.fall_le {D : Int} (h : Outs l E lo hi m e) (hw : Ways E lo hi m e D) : fallOf l lo hi ≤ qE E D := by
  have hE : 0 < E := by have := h.e1; omega
  refine mostTo_in (p := fun q => q ≤ qE E D) ?_ (fun k hk => ?_) _ (Nat.le_refl _)
  · show _ ≤ _
    rw [h.first, qE_le hE]; exact hw.first
  · show _ ≤ _
    rw [h.way hk]
    split
    · rename_i h1
      rw [qE_two hE D, qE_le (by omega)]; exact hw.gaps k h1
    · rw [qE_le hE]; exact hw.last
end
/-- the numerators of even outlets -/
def evenE (lo hi : Int) (np k : Nat) : Int := 2 * np * lo + (2 * k + 1) * (hi - lo)
theorem evenE_succ (lo hi : Int) (np k : Nat) : evenE lo hi np (k + 1) = evenE lo hi np k + 2 * (hi - lo) := by
  unfold evenE
  rw [show (2 * ((k + 1 : Nat) : Int) + 1) = (2 * (k : Int) + 1) + 2 by omega, Int.add_mul]
  omega
theorem even_outs {lo hi : Int} {np : Nat} (h1 : 1 ≤ np) (h2 : np ≤ 200) (l0 : 0 ≤ lo) (lh : lo < hi) (hh : hi ≤ 200) : Outs (mids lo hi np np) (2 * np) lo hi np (evenE lo hi np) where
  len := mids_length _ _ _ _
  m1 := h1
  m2 := h2
  e1 := by omega
  e2 := by omega
  get := fun j hj => by rw [qE_eq]; simp [mids, mid, evenE]
  l0 := l0
  lh := by omega
  h2 := hh
  asc := fun j _ => by rw [evenE_succ]; omega
  low := by unfold evenE; simp; omega
  high := by
    have e : evenE lo hi np (np - 1) + (hi - lo) = 2 * np * hi := by
      unfold evenE
      rw [show (2 * ((np - 1 : Nat) : Int) + 1) = 2 * (np : Int) - 1 by omega, Int.sub_mul, Int.mul_sub]
      omega
    omega
theorem even_ways {lo hi : Int} {np : Nat} (h1 : 1 ≤ np) : Ways (2 * np) lo hi np (evenE lo hi np) (hi - lo) where
  first := by unfold evenE; simp; omega
  gaps := fun j _ => by rw [evenE_succ]; omega
  last := by
    have e : evenE lo hi np (np - 1) + (hi - lo) = 2 * np * hi := by
      unfold evenE
      rw [show (2 * ((np - 1 : Nat) : Int) + 1) = 2 * (np : Int) - 1 by omega, Int.sub_mul, Int.mul_sub]
      omega
    omega
theorem even_fall {lo hi : Int} {np : Nat} (h1 : 1 ≤ np) (h2 : np ≤ 200) (l0 : 0 ≤ lo) (lh : lo < hi) (hh : hi ≤ 200) : fallOf (mids lo hi np np) lo hi = qE (2 * np) (hi - lo) := by
  have ho := even_outs h1 h2 l0 lh hh
  refine Rat.le_antisymm (ho.fall_le (even_ways h1)) ?_
  have h := mostTo_ge ((mids lo hi np np).getD 0 0 - (lo : Rat)) (waysOf (mids lo hi np np) hi) _ (Nat.le_refl _)
  refine Rat.le_trans ?_ h
  rw [ho.first, qE_le (by omega)]
  unfold evenE; simp; omega
/-- the numerators with one put in -/
def insE (e : Nat → Int) (i : Nat) (X : Int) (j : Nat) : Int := if j < i then e j else if j = i then X else e (j - 1)
theorem insE_lt {e : Nat → Int} {i j : Nat} {X : Int} (h : j < i) : insE e i X j = e j := if_pos h
theorem insE_eq {e : Nat → Int} {i j : Nat} {X : Int} (h : j = i) : insE e i X j = X := by unfold insE; rw [if_neg (by omega), if_pos h]
theorem insE_gt {e : Nat → Int} {i j : Nat} {X : Int} (h : i < j) : insE e i X j = e (j - 1) := by unfold insE; rw [if_neg (by omega), if_neg (by omega)]
theorem ins_outs {l : List Rat} {E lo hi : Int} {m : Nat} {e : Nat → Int} {i : Nat} {x : Int} (h : Outs l E lo hi m e) (hm : m < 200) (hi' : i ≤ m) (hb : ∀ j, j < i → e j < E * x) (ha : ∀ j, i ≤ j → j < m → E * x < e j) (hx1 : lo ≤ x) (hx2 : x ≤ hi) :
    Outs (insAt l i (x : Rat)) E lo hi (m + 1) (insE e i (E * x)) where
  len := by rw [insAt_length (by rw [h.len]; exact hi'), h.len]
  m1 := by omega
  m2 := by omega
  e1 := h.e1
  e2 := h.e2
  get := fun j hj => by
    have hil : i ≤ l.length := by rw [h.len]; exact hi'
    have hj' : j < l.length + 1 := by rw [← insAt_length (x := (x : Rat)) hil]; exact hj
    unfold insE
    by_cases h1 : j < i
    · rw [if_pos h1, insAt_lt hil h1, h.get]
    · by_cases h2 : j = i
      · subst h2
        rw [if_neg h1, if_pos rfl, insAt_eq hil, qE_int (d := E) (by have := h.e1; omega) x]
      · obtain ⟨k, rfl⟩ : ∃ k, j = k + 1 := ⟨j - 1, by omega⟩
        rw [if_neg h1, if_neg h2, insAt_gt hil (by omega) (by omega), h.get]
        simp
  l0 := h.l0
  lh := h.lh
  h2 := h.h2
  asc := fun j hj => by
    unfold insE
    by_cases h1 : j + 1 < i
    · rw [if_pos (by omega), if_pos h1]; exact h.asc j (by omega)
    · by_cases h2 : j + 1 = i
      · rw [if_pos (by omega), if_neg h1, if_pos h2]; exact hb j (by omega)
      · by_cases h3 : j = i
        · rw [if_neg (by omega), if_pos h3, if_neg h1, if_neg h2]
          exact ha _ (by omega) (by omega)
        · rw [if_neg (by omega), if_neg h3, if_neg h1, if_neg h2]
          have := h.asc (j - 1) (by omega)
          rw [show j - 1 + 1 = j by omega] at this
          rw [show j + 1 - 1 = j by omega]; exact this
  low := by
    unfold insE
    have hE : 0 ≤ E := by have := h.e1; omega
    split
    · exact h.low
    · rename_i h1
      rw [if_pos (by omega)]
      exact Int.mul_le_mul_of_nonneg_left hx1 hE
  high := by
    unfold insE
    have hE : 0 ≤ E := by have := h.e1; omega
    have hm1 := h.m1
    rw [show m + 1 - 1 = m by omega, if_neg (by omega)]
    split
    · exact Int.mul_le_mul_of_nonneg_left hx2 hE
    · exact h.high
theorem ins_ways {l : List Rat} {E lo hi : Int} {m : Nat} {e : Nat → Int} {i : Nat} {x D : Int} (h : Outs l E lo hi m e) (hw : Ways E lo hi m e D) (hi' : i ≤ m) (hb : ∀ j, j < i → e j < E * x) (ha : ∀ j, i ≤ j → j < m → E * x < e j) (hx1 : lo ≤ x) (hx2 : x ≤ hi) :
    Ways E lo hi (m + 1) (insE e i (E * x)) D := by
  have hE : 0 ≤ E := by have := h.e1; omega
  have hm1 := h.m1
  have hX1 : E * lo ≤ E * x := Int.mul_le_mul_of_nonneg_left hx1 hE
  have hX2 : E * x ≤ E * hi := Int.mul_le_mul_of_nonneg_left hx2 hE
  have w1 := hw.first
  have w3 := hw.last
  have hl := h.low
  have hh := h.high
  refine ⟨?_, fun j hj => ?_, ?_⟩
  · unfold insE
    split
    · exact w1
    · rename_i h1
      rw [if_pos (by omega)]
      have := ha 0 (by omega) (by omega)
      omega
  · by_cases h1 : j + 1 < i
    · rw [insE_lt h1, insE_lt (show j < i by omega)]; exact hw.gaps j (by omega)
    · by_cases h2 : j + 1 = i
      · rw [insE_eq h2, insE_lt (show j < i by omega)]
        by_cases h4 : i < m
        · have := ha i (by omega) h4
          have := hw.gaps j (by omega)
          rw [h2] at this
          omega
        · have e1 : j = m - 1 := by omega
          have h5 : e j = e (m - 1) := by rw [e1]
          have h6 : 0 ≤ D := by have := h.high; have := hb j (by omega); omega
          omega
      · by_cases h3 : j = i
        · rw [insE_gt (show i < j + 1 by omega), insE_eq h3, show j + 1 - 1 = j by omega]
          by_cases h4 : 0 < i
          · have := hb (i - 1) (by omega)
            have := hw.gaps (i - 1) (by omega)
            rw [show i - 1 + 1 = i by omega] at this
            rw [h3]; omega
          · have e1 : j = 0 := by omega
            have h5 : e j = e 0 := by rw [e1]
            have h6 : 0 ≤ D := by have := h.low; omega
            omega
        · rw [insE_gt (show i < j + 1 by omega), insE_gt (show i < j by omega), show j + 1 - 1 = j by omega]
          have := hw.gaps (j - 1) (by omega)
          rw [show j - 1 + 1 = j by omega] at this
          exact this
  · unfold insE
    rw [show m + 1 - 1 = m by omega, if_neg (by omega)]
    split
    · rename_i h1
      have := hb (m - 1) (by omega)
      omega
    · exact w3
end Go.Proofs.YtjpigaobeegbgaaGreatDoor
