/- Plain: texts of integers. -/
import Derived.Test.YtjpigaobeegbgaaGreatDoorCutTxt
import Derived.Lib.SlTrimSet
namespace Go.Proofs.YtjpigaobeegbgaaGreatDoor
open Go
theorem dropWhile_all {p : UInt8 → Bool} (l : List UInt8) (h : ∀ c ∈ l, p c = true) : l.dropWhile p = [] := by
  induction l with
  | nil => rfl
  | cons a t ih => rw [List.dropWhile_cons, if_pos (h a (by simp))]; exact ih fun c hc => h c (by simp [hc])
theorem contains_digit (c : UInt8) : ([48, 49, 50, 51, 52, 53, 54, 55, 56, 57] : List UInt8).contains c = isDig c := by
  have h : ∀ n : Fin 256, ([48, 49, 50, 51, 52, 53, 54, 55, 56, 57] : List UInt8).contains (UInt8.ofNat n.val) = isDig (UInt8.ofNat n.val) := by decide +kernel
  have := h ⟨c.toNat, c.toNat_lt⟩
  simpa using this
theorem trimS_digits (l : List UInt8) (h : ∀ c ∈ l, isDig c = true) : Lib.trimS l [48, 49, 50, 51, 52, 53, 54, 55, 56, 57] = [] := by
  have e : Lib.trimRightS l [48, 49, 50, 51, 52, 53, 54, 55, 56, 57] = [] := by
    unfold Lib.trimRightS
    rw [dropWhile_all]; rfl
    intro c hc
    rw [contains_digit]; exact h c (by simpa using hc)
  rw [Lib.trimS, e]; rfl
theorem decDigits_head' {n : Nat} (h : 0 < n) : (Lib.decDigits n).head? ≠ some 48 := by
  by_cases hl : 1 < (Lib.decDigits n).length
  · exact decDigits_head n hl
  · have hs : n < 10 := by
      refine Decidable.byContradiction fun hc => hl ?_
      rw [Lib.decDigits, dif_neg hc]
      have := List.length_pos_iff.2 (decDigits_ne (n / 10))
      simp; omega
    rw [Lib.decDigits, dif_pos hs]
    have key : ∀ k, k < 10 → 0 < k → (UInt8.ofNat (48 + k)) ≠ 48 := by decide
    simpa using key _ hs h
theorem itoa_zero : Lib.itoa 0 = [48] := by rw [Lib.itoa, if_neg (by omega)]; simpa using Lib.decDigits_one (i := 0) (by omega)
theorem itoa_ne0 {n : Int} (h : n ≠ 0) : Lib.itoa n ≠ [48] := by
  rcases itoa_cases n with ⟨h1, e⟩ | ⟨h1, e⟩
  · rw [e]; intro h2; injection h2 with h3 h4; exact absurd h3 (by decide)
  · rw [e]; exact dec_ne_zero (by omega)
/-- digits of an integer's text, without its sign -/
theorem pow_le_of_lt {n k : Nat} (h : (Lib.decDigits n).length ≤ k) : n < 10 ^ k := by
  rw [Lib.decDigits_length] at h
  exact Nat.lt_of_lt_of_le (Lib.lt_pow_nDigits n) (Nat.pow_le_pow_right (by omega) h)
theorem itoa_lt {n : Int} {k : Nat} (h : (Lib.itoa n).length ≤ k) : n.natAbs < 10 ^ k := pow_le_of_lt (Nat.le_trans (trim_len n) h)
theorem nDigits_le_of_lt {n k : Nat} (h : n < 10 ^ k) (hk : 1 ≤ k) : Lib.nDigits n ≤ k := by
  refine Nat.le_of_not_lt fun hc => ?_
  have : ∀ k m, k < Lib.nDigits m → 1 ≤ k → 10 ^ k ≤ m := by
    intro k
    induction k with
    | zero => intro m _ h; omega
    | succ k ih =>
      intro m hm _
      by_cases hs : m < 10
      · rw [Lib.nDigits_small hs] at hm; omega
      · rw [Lib.nDigits_big hs] at hm
        by_cases hk : 1 ≤ k
        · have := ih (m / 10) (by omega) hk
          rw [Nat.pow_succ]; omega
        · have : k = 0 := by omega
          subst this; omega
  have := this k n hc hk
  omega
theorem itoa_len_le {n : Int} {k : Nat} (h : n.natAbs < 10 ^ k) (hk : 1 ≤ k) : (Lib.itoa n).length ≤ k + 1 := by
  have := nDigits_le_of_lt h hk
  rcases itoa_cases n with ⟨_, e⟩ | ⟨_, e⟩ <;> rw [e] <;> simp [Lib.decDigits_length] <;> omega
end Go.Proofs.YtjpigaobeegbgaaGreatDoor
