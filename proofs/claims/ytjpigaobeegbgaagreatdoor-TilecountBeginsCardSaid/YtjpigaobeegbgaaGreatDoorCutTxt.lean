/- Plain: what cutting a valid number gives. -/
import Derived.Test.YtjpigaobeegbgaaGreatDoorRatTxt
import Derived.Lib.IndexMore
import Derived.Lib.AtoiAll
namespace Go.Proofs.YtjpigaobeegbgaaGreatDoor
open Go
/-- rational.digits -/
def digs (l : List UInt8) : Nat := if 1 < nDig l ∧ l.head? = some 48 then 0 else nDig l
theorem digs_dec (n : Nat) : digs (Lib.decDigits n) = (Lib.decDigits n).length := by
  have e := nDig_append (l := Lib.decDigits n) (r := []) (decDigits_isDig n) (Or.inl rfl)
  rw [List.append_nil] at e
  unfold digs
  rw [e, if_neg (fun h => decDigits_head n h.1 h.2)]
theorem index_append (a r : List UInt8) (h : ∀ c ∈ a, c ≠ 47) : Lib.index (a ++ 47 :: r) [47] = a.length := by
  induction a with
  | nil => simp [Lib.index]
  | cons c a ih =>
    have hc := h c (by simp)
    have := ih (fun c hc => h c (by simp [hc]))
    simp only [List.cons_append, Lib.index, List.isPrefixOf, this, List.length_cons]
    rw [if_neg (by simpa using hc.symm), if_neg (by simp; try omega)]
    omega
theorem index_none (a : List UInt8) (h : ∀ c ∈ a, c ≠ 47) : Lib.index a [47] = -1 := by
  induction a with
  | nil => simp [Lib.index]
  | cons c a ih =>
    have hc := h c (by simp)
    have := ih (fun c hc => h c (by simp [hc]))
    simp only [Lib.index, List.isPrefixOf, this]
    rw [if_neg (by simpa using hc.symm), if_pos (by simp)]
theorem itoa_no47 (n : Int) : ∀ c ∈ Lib.itoa n, c ≠ 47 := by
  intro c hc
  have hd : ∀ c, isDig c = true → c ≠ 47 := fun c h e => by subst e; exact absurd h (by decide)
  rcases itoa_cases n with ⟨_, e⟩ | ⟨_, e⟩
  · rw [e, List.mem_cons] at hc
    rcases hc with rfl | hc
    · decide
    · exact hd c (decDigits_isDig _ c hc)
  · rw [e] at hc
    exact hd c (decDigits_isDig _ c hc)
theorem cut_itoa (n : Int) : Lib.cut (Lib.itoa n) [47] = (Lib.itoa n, [], false) := by
  unfold Lib.cut
  rw [index_none _ (itoa_no47 n), if_neg (by omega)]
theorem cut_frac (n : Int) (r : List UInt8) : Lib.cut (Lib.itoa n ++ 47 :: r) [47] = (Lib.itoa n, r, true) := by
  unfold Lib.cut
  rw [index_append _ _ (itoa_no47 n), if_pos (by omega)]
  simp
/-- the sign of a text -/
theorem trim_itoa (n : Int) : Lib.trimPrefix (Lib.itoa n) [45] = Lib.decDigits n.natAbs ∧ (Lib.hasPrefix (Lib.itoa n) [45] = true → 0 < n.natAbs) := by
  rcases itoa_cases n with ⟨h, e⟩ | ⟨h, e⟩
  · rw [e]
    exact ⟨by simp [Lib.trimPrefix, Lib.hasPrefix], fun _ => by omega⟩
  · rw [e]
    have h1 := decDigits_no45 n.natAbs []
    rw [List.append_nil] at h1
    have h2 : Lib.hasPrefix (Lib.decDigits n.natAbs) [45] = false := by
      cases hd : Lib.decDigits n.natAbs with
      | nil => rfl
      | cons a t =>
        rw [hd] at h1
        simp only [Lib.hasPrefix, List.isPrefixOf, Bool.and_true]
        simpa using fun e => h1 (by simp [← e])
    exact ⟨by simp [Lib.trimPrefix, h2], fun h => by rw [h2] at h; cases h⟩
theorem trim_len (n : Int) : (Lib.decDigits n.natAbs).length ≤ (Lib.itoa n).length := by
  rcases itoa_cases n with ⟨h, e⟩ | ⟨h, e⟩ <;> rw [e] <;> simp
theorem dec_ne_zero {n : Nat} (h : 0 < n) : Lib.decDigits n ≠ [48] := by
  intro e
  have := dval_decDigits n
  rw [e] at this
  have h1 : dval [48] = 0 := by decide
  omega
theorem dec_ne_one {n : Nat} (h : n ≠ 1) : Lib.decDigits n ≠ [49] := by
  intro e
  have := dval_decDigits n
  rw [e] at this
  have h1 : dval [49] = 1 := by decide
  omega
theorem dval_acc : ∀ (l : List UInt8) (a : Nat), l.foldl (fun a c => 10 * a + (c.toNat - 48)) a = a * 10 ^ l.length + dval l
  | [], a => by simp [dval]
  | c :: r, a => by
    have h1 := dval_acc r (10 * a + (c.toNat - 48))
    have h2 := dval_acc r (10 * 0 + (c.toNat - 48))
    simp only [dval, List.foldl_cons, List.length_cons, Nat.pow_succ] at h1 h2 ⊢
    rw [h1, h2, Nat.add_mul, Nat.add_mul, Nat.mul_comm 10 a, Nat.mul_assoc, Nat.mul_comm 10 (10 ^ _)]; omega
theorem dval_append (l r : List UInt8) : dval (l ++ r) = dval l * 10 ^ r.length + dval r := by
  rw [dval, List.foldl_append]; exact dval_acc r _
theorem dval_cons (c : UInt8) (r : List UInt8) : dval (c :: r) = (c.toNat - 48) * 10 ^ r.length + dval r := by
  have := dval_append [c] r
  simpa [dval] using this
theorem parse_digits : ∀ (l : List UInt8) (acc : Nat), (∀ c ∈ l, isDig c = true) → acc * 10 ^ l.length + dval l < 18446744073709551616 → Lib.parseUint10 acc l = .ok (acc * 10 ^ l.length + dval l)
  | [], acc, _, _ => by simp [Lib.parseUint10, dval]
  | c :: r, acc, h, hb => by
    have hc := (isDig_iff c).1 (h c (by simp))
    have h10 : 1 ≤ 10 ^ r.length := Nat.one_le_pow _ _ (by omega)
    rw [dval_cons, List.length_cons, Nat.pow_succ] at hb ⊢
    have e : acc * (10 ^ r.length * 10) + ((c.toNat - 48) * 10 ^ r.length + dval r) = (acc * 10 + (c.toNat - 48)) * 10 ^ r.length + dval r := by
      rw [Nat.add_mul, Nat.mul_assoc acc 10, Nat.mul_comm 10]; omega
    rw [e] at hb ⊢
    have hlt : acc * 10 + (c.toNat - 48) < 18446744073709551616 := by
      have := Nat.mul_le_mul_left (acc * 10 + (c.toNat - 48)) h10
      omega
    rw [Lib.parseUint10, if_pos hc, if_neg (by omega), if_neg (by omega)]
    exact parse_digits r _ (fun c hc => h c (by simp [hc])) hb
theorem atoi_itoa {n : Int} (h0 : -9223372036854775808 ≤ n) (h1 : n ≤ 9223372036854775807) : Lib.atoiAll (Lib.itoa n) = .ok n := by
  have hp : Lib.parseMag (Lib.decDigits n.natAbs) = .ok n.natAbs := by
    have := parse_digits (Lib.decDigits n.natAbs) 0 (decDigits_isDig _) (by rw [dval_decDigits]; omega)
    rw [dval_decDigits] at this
    unfold Lib.parseMag
    rw [if_neg (decDigits_ne _), this]; simp
  rcases itoa_cases n with ⟨h, e⟩ | ⟨h, e⟩
  · rw [e]
    simp only [Lib.atoiAll]
    rw [if_pos (by decide), hp]
    simp only []
    rw [if_neg (by simp), if_neg (by simp; omega), if_pos (by decide)]
    congr 1; omega
  · rw [e]
    cases hd : Lib.decDigits n.natAbs with
    | nil => exact absurd hd (decDigits_ne _)
    | cons c r =>
      have hc := (isDig_iff c).1 (decDigits_isDig n.natAbs c (by rw [hd]; simp))
      simp only [Lib.atoiAll]
      rw [if_neg (by omega), ← hd, hp]
      simp only []
      rw [if_neg (by omega), if_neg (by omega), if_neg (by omega)]
      congr 1; omega
end Go.Proofs.YtjpigaobeegbgaaGreatDoor
