/- Plain: spans in quarters; what the laws of the layer tilecount say of them. -/
import Derived.Test.YtjpigaobeegbgaaGreatDoorWOffsets
namespace Go.Proofs.YtjpigaobeegbgaaGreatDoor
open Go
theorem small_divInt {m d : Int} (hm : m.natAbs < 100000000) (h0 : 0 < d) (hd : d < 100000000) : Small (Rat.divInt m d) := by
  obtain ⟨a, b, g, _, g0, e1, e2, b0, n1, n2, _, _⟩ := divInt_parts m d h0
  have hg : 1 ≤ g := g0
  refine ⟨?_, ?_⟩
  · rw [n1]
    have : m.natAbs = a.natAbs * g := by rw [e1, Int.natAbs_mul]; rfl
    have := Nat.le_mul_of_pos_right a.natAbs g0
    omega
  · have : b ≤ d := by
      rw [e2]
      have h1 : b * 1 ≤ b * (g : Int) := Int.mul_le_mul_of_nonneg_left (by omega) (by omega)
      omega
    omega
theorem div_divInt (m d : Int) : (m : Rat) / (d : Rat) = Rat.divInt m d := (Rat.divInt_eq_div m d).symm
theorem floor_divInt {m d : Int} (h0 : 0 < d) : (Rat.divInt m d).floor = m / d := by
  obtain ⟨a, b, g, _, g0, e1, e2, b0, n1, n2, _, _⟩ := divInt_parts m d h0
  rw [Rat.floor_def, n1, n2]
  rw [e1, e2]
  exact (Int.mul_ediv_mul_of_pos_left a b (by omega)).symm
/-- how many steps of d lead to m or beyond -/
def up (m d : Int) : Int := (m + d - 1) / d
theorem up_of_dvd {a d : Int} (h0 : 0 < d) : up (a * d) d = a := by
  unfold up
  rw [show a * d + d - 1 = (d - 1) + a * d by omega, Int.add_mul_ediv_right _ _ (by omega), Int.ediv_eq_zero_of_lt (by omega) (by omega), Int.zero_add]
theorem up_of_not {m d : Int} (h0 : 0 < d) (h : m % d ≠ 0) : up m d = m / d + 1 := by
  unfold up
  have key := Int.emod_add_mul_ediv m d
  have k1 := Int.emod_nonneg m (b := d) (by omega)
  have k2 := Int.emod_lt_of_pos m h0
  generalize m / d = q at *
  generalize m % d = r at *
  have e : m + d - 1 = (r - 1) + (q + 1) * d := by rw [Int.add_mul, Int.mul_comm q]; omega
  rw [e, Int.add_mul_ediv_right _ _ (by omega), Int.ediv_eq_zero_of_lt (by omega) (by omega), Int.zero_add]
theorem up_divInt {m d : Int} (h0 : 0 < d) : (Rat.divInt m d).floor + (if (Rat.divInt m d).den = 1 then 0 else 1) = up m d := by
  rw [floor_divInt h0]
  have hred := (Rat.divInt m d).reduced
  obtain ⟨a, b, g, _, g0, e1, e2, b0, n1, n2, _, _⟩ := divInt_parts m d h0
  split
  · rename_i h
    have hb : b = 1 := by omega
    subst hb
    have hg : d = g := by omega
    rw [e1, ← hg, up_of_dvd h0, Int.mul_ediv_cancel _ (by omega)]; omega
  · rename_i h
    have hne : m % d ≠ 0 := by
      intro hz
      apply h
      have hb : b ∣ a := by
        have : b * g ∣ a * g := by rw [← e1, ← e2]; exact Int.dvd_of_emod_eq_zero hz
        exact Int.dvd_of_mul_dvd_mul_right (by omega) this
      rw [n1] at hred
      have h2 : (Rat.divInt m d).den = b.natAbs := by omega
      rw [h2] at hred ⊢
      have h3 : b.natAbs ∣ a.natAbs := Int.natAbs_dvd_natAbs.2 hb
      have h4 := Nat.gcd_eq_right h3
      rw [← h4]; exact hred
    rw [up_of_not h0 hne]
theorem up_ge {m d : Int} (h0 : 0 < d) : m ≤ d * up m d := by
  unfold up
  have := Int.emod_add_mul_ediv (m + d - 1) d
  have := Int.emod_lt_of_pos (m + d - 1) h0
  omega
theorem up_lt {m d : Int} (h0 : 0 < d) : d * (up m d - 1) < m := by
  unfold up
  have := Int.emod_add_mul_ediv (m + d - 1) d
  have := Int.emod_nonneg (m + d - 1) (b := d) (by omega)
  rw [Int.mul_sub]; omega
theorem up_mono {m m' d : Int} (h0 : 0 < d) (h : m ≤ m') : up m d ≤ up m' d := Int.ediv_le_ediv h0 (by omega)
theorem up_add {m d : Int} (h0 : 0 < d) : up (m + d) d = up m d + 1 := by
  unfold up
  rw [show m + d + d - 1 = (m + d - 1) + 1 * d by omega, Int.add_mul_ediv_right _ _ (by omega)]
theorem up_pos {m d : Int} (h0 : 0 < d) (h : 0 < m) : 0 < up m d := by
  have := Int.ediv_le_ediv h0 (show d ≤ m + d - 1 by omega)
  rw [Int.ediv_self (by omega)] at this
  exact this
theorem up_le {m d : Int} (h0 : 0 < d) (h : 0 ≤ m) : up m d ≤ m := by
  have h1 := up_lt (m := m) h0
  by_cases h2 : up m d ≤ 0
  · omega
  · have h3 : 1 * (up m d - 1) ≤ d * (up m d - 1) := Int.mul_le_mul_of_nonneg_right (by omega) (by omega)
    omega
/-- m quarters -/
def q4 (m : Int) : Rat := (m : Rat) / 4
theorem q4_eq (m : Int) : q4 m = Rat.divInt m 4 := div_divInt m 4
theorem q4_sub (a b : Int) : q4 a - q4 b = q4 (a - b) := by unfold q4; rw [Rat.intCast_sub]; grind
theorem q4_add (a b : Int) : q4 a + q4 b = q4 (a + b) := by unfold q4; rw [Rat.intCast_add]; grind
theorem q4_lt {a b : Int} : q4 a < q4 b ↔ a < b := by
  rw [← Rat.intCast_lt_intCast]; unfold q4; grind
theorem q4_le {a b : Int} : q4 a ≤ q4 b ↔ a ≤ b := by
  rw [← Rat.intCast_le_intCast]; unfold q4; grind
theorem q4_int (w : Int) : (w : Rat) = q4 (4 * w) := by unfold q4; rw [Rat.intCast_mul]; have : ((4 : Int) : Rat) = 4 := rfl; rw [this]; grind
theorem q4_half (w : Int) : (w : Rat) / 2 = q4 (2 * w) := by unfold q4; rw [Rat.intCast_mul]; have : ((2 : Int) : Rat) = 2 := rfl; rw [this]; grind
theorem q4_small {m : Int} (h : m.natAbs < 100000000) : Small (q4 m) := by rw [q4_eq]; exact small_divInt h (by omega) (by omega)
theorem q4_step (m w : Int) (k : Nat) : q4 m + (k : Rat) * (w : Rat) = q4 (m + 4 * w * k) := by
  have : (k : Rat) = ((k : Int) : Rat) := (Rat.intCast_natCast k).symm
  rw [this, ← Rat.intCast_mul, q4_int, q4_add]
  congr 1
  rw [Int.mul_comm (k : Int), ← Int.mul_assoc]
theorem q4_div {n w : Int} (hw : 0 < w) : q4 n / (w : Rat) = Rat.divInt n (4 * w) := by
  rw [← div_divInt, Rat.intCast_mul]; unfold q4
  have : ((4 : Int) : Rat) = 4 := rfl
  have h0 : (w : Rat) ≠ 0 := by
    intro h
    have : w = 0 := by exact_mod_cast h
    omega
  rw [this]; grind
/-- spans in quarters -/
structure Quart (sp : List (Rat × Rat)) (m n : Nat → Int) : Prop where
  len : sp.length ≤ 5
  at' : ∀ k (h : k < sp.length), sp[k] = (q4 (m k), q4 (m k + n k))
  n1 : ∀ k, k < sp.length → 1 ≤ n k ∧ n k ≤ 256
  m1 : ∀ k, k < sp.length → -40000 ≤ m k ∧ m k ≤ 40000
  gap : ∀ k, k + 1 < sp.length → m k + n k < m (k + 1)
theorem Quart.right {sp : List (Rat × Rat)} {m n : Nat → Int} (h : Quart sp m n) : RightSpans sp := by
  refine ⟨fun k hk => ?_, fun k hk => ?_⟩
  · have h1 := h.n1 k hk
    have h2 := h.m1 k hk
    rw [h.at' k hk]
    exact ⟨q4_small (by omega), q4_small (by omega), q4_lt.2 (by omega)⟩
  · rw [h.at' k (by omega), h.at' (k + 1) hk]
    exact q4_lt.2 (h.gap k hk)
theorem Quart.dif {sp : List (Rat × Rat)} {m n : Nat → Int} (h : Quart sp m n) {k : Nat} (hk : k < sp.length) : sp[k].2 - sp[k].1 = q4 (n k) := by
  rw [h.at' k hk]
  show q4 _ - q4 _ = _
  rw [q4_sub]; congr 1; omega
/-- the sum of the first numbers -/
def sumTo (n : Nat → Int) : Nat → Int
  | 0 => 0
  | k + 1 => sumTo n k + n k
theorem Quart.lenTo {sp : List (Rat × Rat)} {m n : Nat → Int} (h : Quart sp m n) : ∀ k, k ≤ sp.length → lenTo sp k = q4 (sumTo n k) ∧ 0 ≤ sumTo n k ∧ sumTo n k ≤ 256 * k := by
  intro k
  induction k with
  | zero => intro _; refine ⟨?_, by simp [sumTo], by simp [sumTo]⟩; rw [lenTo_zero]; exact (by decide +kernel : (0 : Rat) = q4 0)
  | succ k ih =>
    intro hk
    obtain ⟨i1, i2, i3⟩ := ih (by omega)
    have h1 := h.n1 k (by omega)
    refine ⟨?_, by simp only [sumTo]; omega, by simp only [sumTo]; omega⟩
    rw [lenTo_succ _ _ (by omega), h.dif (by omega), i1, q4_add]; rfl
theorem Quart.good {sp : List (Rat × Rat)} {m n : Nat → Int} (h : Quart sp m n) : GoodCourse 0 1 sp where
  slo := by exact ⟨by decide, by decide⟩
  shi := by exact ⟨by decide, by decide⟩
  lt := by decide +kernel
  right := h.right
  len := by have := h.len; omega
  sum := fun k hk => by
    obtain ⟨i1, i2, i3⟩ := h.lenTo k hk
    have := h.len
    rw [i1]; exact q4_small (by omega)
  dif := fun k hk => by
    have := h.n1 k hk
    rw [h.dif hk]; exact q4_small (by omega)
  d := by
    have : (1 - 0 : Rat) = 1 := by decide +kernel
    rw [this]; exact ⟨by decide, by decide⟩
  p := by
    obtain ⟨i1, i2, i3⟩ := h.lenTo sp.length (Nat.le_refl _)
    have := h.len
    have e : ((1 : Rat) - 0) = 1 := by decide +kernel
    rw [e, Rat.one_mul, i1]; exact q4_small (by omega)
theorem Quart.steps {sp : List (Rat × Rat)} {m n : Nat → Int} (h : Quart sp m n) {w : Int} (w1 : 1 ≤ w) (w2 : w ≤ 2000) : GoodSteps sp w := fun k hk => by
  have := h.n1 k hk
  rw [h.dif hk]
  refine ⟨?_, ?_⟩
  · have h0 : (0 : Rat) = q4 0 := by decide +kernel
    rw [h0]; exact q4_lt.2 (by omega)
  · rw [q4_div (by omega)]; exact small_divInt (by omega) (by omega) (by omega)
theorem Quart.full {sp : List (Rat × Rat)} {m n : Nat → Int} (h : Quart sp m n) {w : Int} (w1 : 1 ≤ w) : ∀ k, k ≤ sp.length → fullTo sp w k = sumTo (fun k => n k / (4 * w)) k := by
  intro k
  induction k with
  | zero => intro _; rw [fullTo_zero]; rfl
  | succ k ih =>
    intro hk
    rw [fullTo_succ _ _ (by omega), h.dif (by omega), q4_div (by omega), floor_divInt (by omega), ih (by omega)]; rfl
theorem Quart.cut {sp : List (Rat × Rat)} {m n : Nat → Int} (h : Quart sp m n) {w : Int} (w1 : 1 ≤ w) : ∀ k, k ≤ sp.length → cutTo sp w k = sumTo (fun k => up (n k) (4 * w) - n k / (4 * w)) k := by
  intro k
  induction k with
  | zero => intro _; rw [cutTo_zero]; rfl
  | succ k ih =>
    intro hk
    have := up_divInt (m := n k) (d := 4 * w) (by omega)
    rw [floor_divInt (by omega)] at this
    rw [cutTo_succ _ _ (by omega), h.dif (by omega), q4_div (by omega), ih (by omega)]
    simp only [sumTo]
    split at this <;> simp_all <;> omega
theorem sumTo_add (f g : Nat → Int) : ∀ k, sumTo f k + sumTo g k = sumTo (fun i => f i + g i) k
  | 0 => rfl
  | k + 1 => by
    have := sumTo_add f g k
    simp only [sumTo]; omega
theorem sumTo_congr {f g : Nat → Int} : ∀ k, (∀ i, i < k → f i = g i) → sumTo f k = sumTo g k
  | 0, _ => rfl
  | k + 1, h => by
    have := sumTo_congr k (fun i hi => h i (by omega))
    have := h k (by omega)
    simp only [sumTo]; omega
theorem Quart.tiles {sp : List (Rat × Rat)} {m n : Nat → Int} (h : Quart sp m n) {w : Int} (w1 : 1 ≤ w) : ∀ k, k ≤ sp.length → fullTo sp w k + cutTo sp w k = sumTo (fun k => up (n k) (4 * w)) k := by
  intro k hk
  rw [h.full w1 k hk, h.cut w1 k hk, sumTo_add]
  exact sumTo_congr k (fun i _ => by omega)
/-- how many tiles begin in a span -/
def begins (n : Nat → Int) (w : Int) (odd : Bool) (k : Nat) : Nat := (up (if odd then n k + 2 * w else n k) (4 * w)).toNat
theorem Quart.stepsTo {sp : List (Rat × Rat)} {m n : Nat → Int} (h : Quart sp m n) {w : Int} (w1 : 1 ≤ w) (w2 : w ≤ 2000) (odd : Bool) : ∀ k (hk : k < sp.length), StepsTo (firstAt sp[k] w odd) sp[k].2 w (begins n w odd k) := by
  intro k hk
  have h1 := h.n1 k hk
  have h2 := h.m1 k hk
  obtain ⟨f, hf, hf2⟩ : ∃ f : Int, firstAt sp[k] w odd = q4 (m k + n k - f) ∧ f = (if odd then n k + 2 * w else n k) := by
    refine ⟨_, ?_, rfl⟩
    unfold firstAt
    rw [h.at' k hk]
    cases odd
    · simp
    · simp only [if_true]
      rw [q4_half, q4_sub]; congr 1; omega
  have hfb : 1 ≤ f ∧ f ≤ 5000 := by rw [hf2]; split <;> omega
  have u1 := up_ge (m := f) (d := 4 * w) (by omega)
  have u2 := up_lt (m := f) (d := 4 * w) (by omega)
  have u3 := up_pos (m := f) (d := 4 * w) (by omega) (by omega)
  have u4 := up_le (m := f) (d := 4 * w) (by omega) (by omega)
  have hb : ((begins n w odd k : Nat) : Int) = up f (4 * w) := by
    unfold begins
    rw [← hf2]; omega
  have hs : sp[k].2 = q4 (m k + n k) := by rw [h.at' k hk]
  have e := Int.mul_sub (4 * w) (up f (4 * w)) 1
  rw [hf, hs]
  refine ⟨fun j hj => ?_, ?_, fun j hj => ?_, q4_small (by omega), ?_⟩
  · rw [q4_step]
    have : 4 * w * (j : Int) ≤ 4 * w * (up f (4 * w) - 1) := Int.mul_le_mul_of_nonneg_left (by omega) (by omega)
    exact q4_lt.2 (by omega)
  · rw [q4_step, hb]
    exact q4_le.2 (by omega)
  · rw [q4_step]
    have : 4 * w * (j : Int) ≤ 4 * w * up f (4 * w) := Int.mul_le_mul_of_nonneg_left (by omega) (by omega)
    have : 0 ≤ 4 * w * (j : Int) := Int.mul_nonneg (by omega) (by omega)
    exact q4_small (by omega)
  · rw [q4_int]; exact q4_small (by omega)
theorem begins_bds {sp : List (Rat × Rat)} {m n : Nat → Int} (h : Quart sp m n) {w : Int} (w1 : 1 ≤ w) {k : Nat} (hk : k < sp.length) :
    ((begins n w false k : Nat) : Int) = up (n k) (4 * w) ∧ begins n w false k ≤ begins n w true k ∧ begins n w true k ≤ begins n w false k + 1 ∧ 1 ≤ begins n w false k ∧ begins n w false k ≤ 256 := by
  have h1 := h.n1 k hk
  have u3 := up_pos (m := n k) (d := 4 * w) (by omega) (by omega)
  have u4 := up_le (m := n k) (d := 4 * w) (by omega) (by omega)
  have u5 := up_mono (d := 4 * w) (by omega) (show n k ≤ n k + 2 * w by omega)
  have u6 := up_mono (d := 4 * w) (by omega) (show n k + 2 * w ≤ n k + 4 * w by omega)
  rw [up_add (by omega)] at u6
  unfold begins
  simp only [if_true, Bool.false_eq_true, if_false]
  omega
/-- where the k-th span begins, in quarters -/
def mAt (a : Int) (l : List Int) : Nat → Int
  | 0 => a
  | k + 1 => mAt a l k + l.getD k 0 + 2
/-- how long the k-th span is, in quarters -/
def nAt (l : List Int) (k : Nat) : Int := l.getD k 0 + 1
/-- the spans of kingpostlaw48.spans -/
def spanQ (a : Int) (l : List Int) : List (Rat × Rat) := (List.range l.length).map fun k => (q4 (mAt a l k), q4 (mAt a l k + nAt l k))
theorem spanQ_length (a : Int) (l : List Int) : (spanQ a l).length = l.length := by simp [spanQ]
def Bytes (l : List Int) : Prop := ∀ k, 0 ≤ l.getD k 0 ∧ l.getD k 0 ≤ 255
theorem bytes_of {l : List Int} (h : ∀ x ∈ l, 0 ≤ x ∧ x ≤ 255) : Bytes l := fun k => by
  rw [List.getD_eq_getElem?_getD]
  by_cases hk : k < l.length
  · rw [List.getElem?_eq_getElem hk]; exact h _ (List.getElem_mem hk)
  · rw [List.getElem?_eq_none (by omega)]; simp
theorem mAt_bds {a : Int} {l : List Int} (hl : Bytes l) : ∀ k, a ≤ mAt a l k ∧ mAt a l k ≤ a + 257 * k
  | 0 => by simp [mAt]
  | k + 1 => by
    have := mAt_bds (a := a) hl k
    have := hl k
    simp only [mAt]; omega
theorem spanQ_quart {a : Int} {l : List Int} (h5 : l.length ≤ 5) (hl : Bytes l) (a1 : -32768 ≤ a) (a2 : a ≤ 32767) : Quart (spanQ a l) (mAt a l) (nAt l) where
  len := by rw [spanQ_length]; exact h5
  at' := fun k h => by simp [spanQ]
  n1 := fun k h => by have := hl k; unfold nAt; omega
  m1 := fun k h => by
    rw [spanQ_length] at h
    have := mAt_bds (a := a) hl k
    omega
  gap := fun k h => by
    show mAt a l k + (l.getD k 0 + 1) < mAt a l k + l.getD k 0 + 2
    omega
theorem spanQ_succ {a : Int} {l : List Int} {k : Nat} (h : k < l.length) : (spanQ a l).take (k + 1) = (spanQ a l).take k ++ [(q4 (mAt a l k), q4 (mAt a l k + nAt l k))] := by
  rw [List.take_succ_eq_append_getElem (by rw [spanQ_length]; exact h)]
  simp [spanQ]
theorem mAt_succ (a : Int) (l : List Int) (k : Nat) : mAt a l (k + 1) = mAt a l k + l.getD k 0 + 2 := rfl
/-- the lengths of beginnings -/
theorem Quart.offLen {sp : List (Rat × Rat)} {m n : Nat → Int} (_ : Quart sp m n) (w : Int) (odd : Bool) : ∀ k, k ≤ sp.length → (((offTo sp w odd (begins n w odd) k).length : Nat) : Int) = sumTo (fun i => (begins n w odd i : Nat)) k
  | 0, _ => rfl
  | k + 1, hk => by
    have ih := Quart.offLen ‹_› w odd k (by omega)
    rw [offTo_succ _ _ _ _ (by omega), List.length_append, ats_length]
    simp only [sumTo]; omega
theorem Quart.offMax {sp : List (Rat × Rat)} {m n : Nat → Int} (h : Quart sp m n) {w : Int} (w1 : 1 ≤ w) (odd : Bool) : ∀ k, k ≤ sp.length → (offTo sp w odd (begins n w odd) k).length ≤ 257 * k
  | 0, _ => by simp [offTo_zero]
  | k + 1, hk => by
    have ih := Quart.offMax h w1 odd k (by omega)
    have := begins_bds h w1 (k := k) (by omega)
    rw [offTo_succ _ _ _ _ (by omega), List.length_append, ats_length]
    cases odd <;> omega
theorem Quart.offMax' {sp : List (Rat × Rat)} {m n : Nat → Int} (h : Quart sp m n) {w : Int} (w1 : 1 ≤ w) (odd : Bool) : ∀ k, k ≤ sp.length → (offTo sp w odd (begins n w odd) k).length ≤ 4000 := fun k hk => by
  have := h.offMax w1 odd k hk
  have := h.len
  omega
/-- P48.2 -/
theorem spans_plain {a n w : Int} (h1 : 0 ≤ n) (h2 : n ≤ 255) (a1 : -32768 ≤ a) (a2 : a ≤ 32767) (w1 : 1 ≤ w) : ∃ F C : Int, fullTo (spanQ a [n]) w 1 = F ∧ cutTo (spanQ a [n]) w 1 = C ∧ 0 ≤ F ∧ F ≤ 1000 ∧ 0 ≤ C ∧ C ≤ 1 ∧ 4 * w * F ≤ n + 1 ∧ n + 1 ≤ 4 * w * (F + C) ∧ 4 * w * (F + C - 1) < n + 1 := by
  have hb : Bytes [n] := bytes_of (by intro x hx; simp at hx; omega)
  have hq := spanQ_quart (a := a) (l := [n]) (by simp) hb a1 a2
  have e1 := hq.full w1 1 (by simp [spanQ])
  have e2 := hq.tiles w1 1 (by simp [spanQ])
  have hn : nAt [n] 0 = n + 1 := rfl
  simp only [sumTo, hn] at e1 e2
  refine ⟨_, _, rfl, rfl, ?_⟩
  have u1 := up_ge (m := n + 1) (d := 4 * w) (by omega)
  have u2 := up_lt (m := n + 1) (d := 4 * w) (by omega)
  have k1 := Int.ediv_nonneg (show 0 ≤ n + 1 by omega) (show 0 ≤ 4 * w by omega)
  have k2 := Int.ediv_mul_le (n + 1) (show (4 * w : Int) ≠ 0 by omega)
  have k3 := Int.ediv_le_self (4 * w) (show 0 ≤ n + 1 by omega)
  have k4 := up_divInt (m := n + 1) (d := 4 * w) (by omega)
  rw [floor_divInt (by omega)] at k4
  rw [Int.mul_comm] at k2
  generalize fullTo (spanQ a [n]) w 1 = F at *
  generalize cutTo (spanQ a [n]) w 1 = C at *
  have e3 : F + C = up (n + 1) (4 * w) := by omega
  have e4 : F = (n + 1) / (4 * w) := by omega
  rw [e3]
  refine ⟨by omega, by omega, ?_, ?_, by rw [e4]; exact k2, u1, u2⟩
  · split at k4 <;> omega
  · split at k4 <;> omega
/-- P48.4 -/
theorem moved_plain {a b w : Int} {l : List Int} (h5 : l.length ≤ 5) (hl : Bytes l) (a1 : -32768 ≤ a) (a2 : a ≤ 32767) (b1 : -32768 ≤ b) (b2 : b ≤ 32767) (w1 : 1 ≤ w) :
    fullTo (spanQ a l) w l.length = fullTo (spanQ b l) w l.length ∧ cutTo (spanQ a l) w l.length = cutTo (spanQ b l) w l.length ∧ ∀ odd, (offTo (spanQ a l) w odd (begins (nAt l) w odd) l.length).length = (offTo (spanQ b l) w odd (begins (nAt l) w odd) l.length).length := by
  have ha := spanQ_quart h5 hl a1 a2
  have hb := spanQ_quart h5 hl b1 b2
  refine ⟨?_, ?_, fun odd => ?_⟩
  · rw [ha.full w1 _ (by simp [spanQ]), hb.full w1 _ (by simp [spanQ])]
  · rw [ha.cut w1 _ (by simp [spanQ]), hb.cut w1 _ (by simp [spanQ])]
  · have e1 := ha.offLen w odd l.length (by simp [spanQ])
    have e2 := hb.offLen w odd l.length (by simp [spanQ])
    omega
end Go.Proofs.YtjpigaobeegbgaaGreatDoor
