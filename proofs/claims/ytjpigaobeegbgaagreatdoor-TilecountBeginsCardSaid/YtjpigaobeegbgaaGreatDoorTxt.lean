/- Plain definitions on texts of numbers: digits, native numbers. No program in sight. -/
import Derived.Lib.ItoaNum
import Derived.Lib.Strings
namespace Go.Proofs.YtjpigaobeegbgaaGreatDoor
/-- a digit -/
def isDig (c : UInt8) : Bool := decide (48 ≤ c.toNat) && decide (c.toNat ≤ 57)
/-- how many digits a text begins with -/
def nDig (l : List UInt8) : Nat := (l.takeWhile isDig).length
/-- the value of digits -/
def dval (l : List UInt8) : Nat := l.foldl (fun a c => 10 * a + (c.toNat - 48)) 0
theorem dval_snoc (l : List UInt8) (c : UInt8) : dval (l ++ [c]) = 10 * dval l + (c.toNat - 48) := by simp [dval]
theorem nDig_le (l : List UInt8) : nDig l ≤ l.length := (List.takeWhile_sublist isDig).length_le
theorem takeWhile_all (l : List UInt8) : ∀ x ∈ l.takeWhile isDig, isDig x = true := by
  induction l with
  | nil => simp
  | cons c r ih =>
    intro x hx
    by_cases hc : isDig c = true
    · simp [hc] at hx
      rcases hx with rfl | hx
      · exact hc
      · exact ih x hx
    · simp [hc] at hx
theorem isDig_of_lt (l : List UInt8) (k : Nat) (h : k < nDig l) (hk : k < l.length) : isDig l[k] = true := by
  have h1 : ∀ x ∈ l.takeWhile isDig, isDig x = true := takeWhile_all l
  have h2 : l[k] = (l.takeWhile isDig)[k]'h := by
    have := List.takeWhile_prefix isDig (l := l)
    exact (this.getElem h).symm
  rw [h2]; exact h1 _ (List.getElem_mem h)
theorem not_isDig_at (l : List UInt8) (hk : nDig l < l.length) : isDig l[nDig l] = false := by
  induction l with
  | nil => simp at hk
  | cons c r ih =>
    by_cases hc : isDig c = true
    · have e : nDig (c :: r) = nDig r + 1 := by simp [nDig, hc]
      simp only [e, List.getElem_cons_succ]
      exact ih (by simp [e] at hk; exact hk)
    · have e : nDig (c :: r) = 0 := by simp [nDig, hc]
      simp only [e, List.getElem_cons_zero]; simpa using hc
theorem isDig_iff (c : UInt8) : isDig c = true ↔ 48 ≤ c.toNat ∧ c.toNat ≤ 57 := by simp [isDig]
theorem dval_take_lt (l : List UInt8) : ∀ k, k ≤ nDig l → dval (l.take k) < 10 ^ k
  | 0, _ => by simp [dval]
  | k + 1, h => by
    have hl : k < l.length := Nat.lt_of_lt_of_le h (nDig_le l)
    have ih := dval_take_lt l k (by omega)
    have hd := (isDig_iff _).1 (isDig_of_lt l k h hl)
    rw [List.take_succ_eq_append_getElem hl, dval_snoc, Nat.pow_succ]
    omega
/-- rational.nativeInt -/
def natInt (l : List UInt8) : Option (Nat × List UInt8) :=
  if nDig l = 0 ∨ 8 < nDig l ∨ (1 < nDig l ∧ l.head? = some 48) then none else some (dval (l.take (nDig l)), l.drop (nDig l))
/-- rational.nativeOf -/
def natOf (l : List UInt8) : Option (Int × Nat) :=
  match natInt (if l.head? = some 45 then l.tail else l) with
  | none => none
  | some (n, rest) =>
    if l.head? = some 45 ∧ n = 0 then none else
    if rest = [] then some (if l.head? = some 45 then -(n : Int) else n, 1) else
    if rest.head? ≠ some 47 then none else
    match natInt rest.tail with
    | none => none
    | some (d, r) => if r ≠ [] ∨ d < 2 ∨ Nat.gcd n d ≠ 1 then none else some (if l.head? = some 45 then -(n : Int) else n, d)
theorem natOf_own {l own : List UInt8} (h : own = if l.head? = some 45 then l.tail else l) : natOf l = match natInt own with
  | none => none
  | some (n, rest) =>
    if l.head? = some 45 ∧ n = 0 then none else
    if rest = [] then some (if l.head? = some 45 then -(n : Int) else n, 1) else
    if rest.head? ≠ some 47 then none else
    match natInt rest.tail with
    | none => none
    | some (d, r) => if r ≠ [] ∨ d < 2 ∨ Nat.gcd n d ≠ 1 then none else some (if l.head? = some 45 then -(n : Int) else n, d) := by
  subst h; rfl
end Go.Proofs.YtjpigaobeegbgaaGreatDoor
