/- Plain: texts of rational numbers. -/
import Derived.Test.YtjpigaobeegbgaaGreatDoorTxt
namespace Go.Proofs.YtjpigaobeegbgaaGreatDoor
open Go
theorem decDigits_isDig (n : Nat) : ∀ c ∈ Lib.decDigits n, isDig c = true := by
  induction n using Nat.strongRecOn with
  | _ n ih =>
    intro c hc
    have key : ∀ k, k < 10 → isDig (UInt8.ofNat (48 + k)) = true := by decide
    rw [Lib.decDigits] at hc
    split at hc
    · rename_i hn; rw [List.mem_singleton] at hc; subst hc; exact key _ hn
    · rename_i hn; rw [List.mem_append] at hc
      rcases hc with hc | hc
      · exact ih _ (by omega) c hc
      · rw [List.mem_singleton] at hc; subst hc; exact key _ (Nat.mod_lt _ (by omega))
theorem decDigits_ne (n : Nat) : Lib.decDigits n ≠ [] := by
  rw [Lib.decDigits]; split <;> simp
theorem dval_decDigits (n : Nat) : dval (Lib.decDigits n) = n := by
  induction n using Nat.strongRecOn with
  | _ n ih =>
    have key : ∀ k, k < 10 → (UInt8.ofNat (48 + k)).toNat - 48 = k := by decide
    rw [Lib.decDigits]
    split
    · rename_i h; have := key n h; simp only [dval, List.foldl_cons, List.foldl_nil]; omega
    · rw [dval_snoc, ih _ (by omega), key _ (Nat.mod_lt _ (by omega))]; omega
theorem nDig_append {l r : List UInt8} (hl : ∀ c ∈ l, isDig c = true) (hr : r = [] ∨ ∃ c t, r = c :: t ∧ isDig c = false) : nDig (l ++ r) = l.length := by
  induction l with
  | nil =>
    rcases hr with rfl | ⟨c, t, rfl, hc⟩
    · rfl
    · simp [nDig, hc]
  | cons a l ih =>
    have ha := hl a (by simp)
    have := ih (fun c hc => hl c (by simp [hc]))
    simp only [nDig, List.cons_append, List.takeWhile_cons, ha, if_true, List.length_cons] at this ⊢
    omega
theorem nDigits_le8 {n : Nat} (h : n < 100000000) : Lib.nDigits n ≤ 8 := by
  refine Nat.le_of_not_lt fun hc => ?_
  have h1 : 10 ^ 8 ≤ n := by
    have : ∀ k m, k < Lib.nDigits m → 1 ≤ k → 10 ^ k ≤ m := by
      intro k
      induction k with
      | zero => intro m _ h; omega
      | succ k ih =>
        intro m hm _
        by_cases hs : m < 10
        · rw [Lib.nDigits_small hs] at hm; omega
        · rw [Lib.nDigits_big hs] at hm
          by_cases hk : 1 ≤ k
          · have := ih (m / 10) (by omega) hk
            rw [Nat.pow_succ]; omega
          · have : k = 0 := by omega
            subst this; omega
    exact this 8 n hc (by omega)
  omega
theorem decDigits_head (n : Nat) (h : 1 < (Lib.decDigits n).length) : (Lib.decDigits n).head? ≠ some 48 := by
  induction n using Nat.strongRecOn with
  | _ n ih =>
    have key : ∀ k, k < 10 → 0 < k → (UInt8.ofNat (48 + k)) ≠ 48 := by decide
    rw [Lib.decDigits] at h ⊢
    split at h
    · simp at h
    · rename_i hn
      rw [dif_neg hn]
      by_cases h1 : 1 < (Lib.decDigits (n / 10)).length
      · have := ih (n / 10) (by omega) h1
        cases hd : Lib.decDigits (n / 10) with
        | nil => exact absurd hd (decDigits_ne _)
        | cons a t => rw [hd] at this; simpa using this
      · have hs : n / 10 < 10 := by
          refine Decidable.byContradiction fun hc => h1 ?_
          rw [Lib.decDigits, dif_neg hc]
          have := List.length_pos_iff.2 (decDigits_ne (n / 10 / 10))
          simp; omega
        rw [Lib.decDigits, dif_pos hs]
        simpa using key _ hs (by omega)
theorem natInt_decDigits {n : Nat} {r : List UInt8} (h : n < 100000000) (hr : r = [] ∨ ∃ c t, r = c :: t ∧ isDig c = false) : natInt (Lib.decDigits n ++ r) = some (n, r) := by
  have e := nDig_append (decDigits_isDig n) hr
  have l8 : (Lib.decDigits n).length ≤ 8 := by rw [Lib.decDigits_length]; exact nDigits_le8 h
  have l0 : (Lib.decDigits n).length ≠ 0 := fun h => decDigits_ne n (List.length_eq_zero_iff.1 h)
  unfold natInt
  rw [e, if_neg]
  · simp [dval_decDigits]
  · rintro (h | h | ⟨h1, h2⟩)
    · exact l0 h
    · omega
    · have := decDigits_head n h1
      cases hd : Lib.decDigits n with
      | nil => exact decDigits_ne _ hd
      | cons a t => rw [hd] at h2 this; simp at h2 this; exact this h2
/-- the text of a rational number -/
def ratText (q : Rat) : List UInt8 := if q.den = 1 then Lib.itoa q.num else Lib.itoa q.num ++ 47 :: Lib.decDigits q.den
/-- a number whose parts have at most 8 digits -/
def Small (q : Rat) : Prop := q.num.natAbs < 100000000 ∧ q.den < 100000000
theorem itoa_cases (n : Int) : (n < 0 ∧ Lib.itoa n = 45 :: Lib.decDigits n.natAbs) ∨ (0 ≤ n ∧ Lib.itoa n = Lib.decDigits n.natAbs) := by
  unfold Lib.itoa
  by_cases h : n < 0
  · exact Or.inl ⟨h, if_pos h⟩
  · exact Or.inr ⟨by omega, by rw [if_neg h]; congr 1; omega⟩
theorem decDigits_no45 (n : Nat) (r : List UInt8) : (Lib.decDigits n ++ r).head? ≠ some 45 := by
  have h1 := decDigits_isDig n
  cases hd : Lib.decDigits n with
  | nil => exact absurd hd (decDigits_ne _)
  | cons a t =>
    rw [hd] at h1
    have := h1 a (by simp)
    intro h
    simp at h
    subst h
    revert this; decide
theorem natOf_dec {n : Int} {d : Nat} {r : List UInt8} (hn : n.natAbs < 100000000) (hr : (r = [] ∧ d = 1) ∨ (r = 47 :: Lib.decDigits d ∧ 2 ≤ d ∧ d < 100000000 ∧ Nat.gcd n.natAbs d = 1)) : natOf (Lib.itoa n ++ r) = some (n, d) := by
  have hr' : r = [] ∨ ∃ c t, r = c :: t ∧ isDig c = false := by
    rcases hr with ⟨h, _⟩ | ⟨h, _⟩
    · exact Or.inl h
    · exact Or.inr ⟨_, _, h, by decide⟩
  have hi := natInt_decDigits hn hr'
  rcases itoa_cases n with ⟨h0, h⟩ | ⟨h0, h⟩
  · rw [natOf_own (own := Lib.decDigits n.natAbs ++ r) (by rw [h]; simp), hi]
    rcases hr with ⟨rfl, rfl⟩ | ⟨rfl, h2, h3, h4⟩
    · simp [h]; omega
    · have hd := natInt_decDigits (r := []) h3 (Or.inl rfl)
      rw [List.append_nil] at hd
      simp only [h, List.cons_append, List.head?_cons, List.tail_cons, hd]
      rw [if_neg (by omega), if_neg (by simp), if_neg (by simp), if_neg (by simp [h4]; omega), if_pos trivial]
      congr 2; omega
  · have hm := decDigits_no45 n.natAbs r
    rw [natOf_own (own := Lib.decDigits n.natAbs ++ r) (by rw [h, if_neg hm]), hi]
    rw [← h] at hm
    rcases hr with ⟨rfl, rfl⟩ | ⟨rfl, h2, h3, h4⟩
    · simp only []
      rw [if_neg (fun hc => hm hc.1), if_pos trivial, if_neg hm]
      congr 2; omega
    · have hd := natInt_decDigits (r := []) h3 (Or.inl rfl)
      rw [List.append_nil] at hd
      simp only [List.head?_cons, List.tail_cons, hd]
      rw [if_neg (fun hc => hm hc.1), if_neg (by simp), if_neg (by simp), if_neg (by simp [h4]; omega), if_neg hm]
      congr 2; omega
theorem natOf_ratText {q : Rat} (h : Small q) : natOf (ratText q) = some (q.num, q.den) := by
  unfold ratText
  split
  · rename_i h1
    have := natOf_dec (n := q.num) (d := 1) (r := []) h.1 (Or.inl ⟨rfl, rfl⟩)
    rw [List.append_nil] at this
    rw [this, h1]
  · rename_i h1
    have := q.den_pos
    exact natOf_dec h.1 (Or.inr ⟨rfl, by omega, h.2, q.reduced⟩)
theorem divInt_parts (n d : Int) (hd : 0 < d) : ∃ a b : Int, ∃ g : Nat, g = Int.gcd (max n (-n)) d ∧ 0 < g ∧ n = a * g ∧ d = b * g ∧ 0 < b ∧ (Rat.divInt n d).num = a ∧ ((Rat.divInt n d).den : Int) = b ∧ n.tdiv g = a ∧ d.tdiv g = b := by
  have e : Int.gcd (max n (-n)) d = Int.gcd n d := by
    simp only [Int.gcd]; congr 1; omega
  have g0 : 0 < Int.gcd n d := Int.gcd_pos_of_ne_zero_right _ (by omega)
  obtain ⟨a, ha⟩ := Int.gcd_dvd_left n d
  obtain ⟨b, hb⟩ := Int.gcd_dvd_right n d
  have hn : (Rat.divInt n d).num = n / (Int.gcd n d : Int) := by rw [Rat.num_divInt, Int.sign_eq_one_of_pos hd, Int.one_mul, Int.gcd_comm]
  have hdn : (Rat.divInt n d).den = d.natAbs / Int.gcd n d := by rw [Rat.den_divInt, if_neg (by omega), Int.gcd_comm]
  rw [e]
  generalize Int.gcd n d = G at *
  have gz : (0 : Int) < (G : Int) := by omega
  have hb0 : 0 < b := by
    rw [hb] at hd
    exact Int.pos_of_mul_pos_right hd gz
  refine ⟨a, b, G, rfl, g0, by rw [Int.mul_comm]; exact ha, by rw [Int.mul_comm]; exact hb, hb0, ?_, ?_, ?_, ?_⟩
  · rw [hn]; exact Int.ediv_eq_of_eq_mul_right (by omega) ha
  · rw [hdn]
    have : d.natAbs = G * b.natAbs := by rw [hb, Int.natAbs_mul]; rfl
    rw [this, Nat.mul_div_cancel_left _ g0]; omega
  · rw [ha]; exact Int.mul_tdiv_cancel_left _ (by omega)
  · rw [hb]; exact Int.mul_tdiv_cancel_left _ (by omega)
end Go.Proofs.YtjpigaobeegbgaaGreatDoor
