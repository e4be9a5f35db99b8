/- Walks: slices.BinarySearchFunc at numbers, by the reference's comparison. -/
import Derived.Test.YtjpigaobeegbgaaGreatDoorWRef02
import Derived.Test.YtjpigaobeegbgaaGreatDoorJ10
set_option linter.unusedVariables false
set_option linter.unusedSimpArgs false
namespace Go.Proofs.YtjpigaobeegbgaaGreatDoor
open Go.RowKit Go.Shelf
/-- the sign of a comparison -/
def cmpQ (p q : Rat) : Int := Lib.compareInt (p.num * q.den) (q.num * p.den)
set_option maxHeartbeats 400000 in
theorem falls1_ok {p q : Rat} (w : World) (hp : Small p) (hq : Small q) :
    Calls Tryz.prog 27 #[.string (numS p), .string (numS q)] w (RetB (.int .i64 (cmpQ p q)) w) := by
  have HP := Lib.hid hp
  have HQ := Lib.hid hq
  clear hp hq
  go_enter Tryz.func27, Tryz.ntmps27
  go_wp2_with fail
  refine (rCompare02_small _ _ _ (numS_list p) HP.out (numS_list q) HQ.out).mono ?_
  rintro e w1 ⟨rfl, hB1⟩
  go_wp2_with fail
  go_ret
  exact ⟨rfl, hB1⟩
theorem cmpQ_neg {p q : Rat} : cmpQ p q < 0 ↔ p < q := by
  unfold cmpQ Lib.compareInt
  rw [Rat.lt_iff]
  split
  · rename_i h; exact ⟨fun _ => h, fun _ => by omega⟩
  · rename_i h
    split
    · exact ⟨fun h' => by omega, fun h' => absurd h' h⟩
    · exact ⟨fun h' => by omega, fun h' => absurd h' h⟩
theorem cmpQ_zero {p q : Rat} : cmpQ p q = 0 ↔ p = q := by
  constructor
  · intro h
    have h1 : ¬ p < q := fun h' => by have := cmpQ_neg.2 h'; omega
    have h2 : ¬ q < p := fun h' => by
      have h3 := (Rat.lt_iff q p).1 h'
      unfold cmpQ Lib.compareInt at h
      rw [if_neg (by omega), if_pos h3] at h
      omega
    exact Rat.le_antisymm (Rat.not_lt.1 h2) (Rat.not_lt.1 h1)
  · rintro rfl
    unfold cmpQ Lib.compareInt
    rw [if_neg (by omega), if_neg (by omega)]
/-- what a search tells -/
def RetFind (l : List Rat) (x : Rat) (w : World) (e : Ending) (w' : World) : Prop := ∃ (i : Nat) (b : Bool), e = .returned (.tuple #[.int .i64 i, .bool b]) ∧ i ≤ l.length ∧ (∀ k (h : k < l.length), k < i → l[k] < x) ∧ (∀ k (h : k < l.length), i ≤ k → x ≤ l[k]) ∧
  (b = false → ∀ (h : i < l.length), l[i] ≠ x) ∧ Below w.heap.size w w'
set_option maxRecDepth 100000 in
set_option maxHeartbeats 1600000 in
theorem search_ok (l : List Rat) (x : Rat) (v : Value) (w : World) (hv : IsStrs w v (l.map numS)) (hl : l.length ≤ 200) (hs : ∀ k (h : k < l.length), Small l[k]) (hx : Small x) (hsort : ∀ i j (hi : i < l.length) (hj : j < l.length), i < j → l[i] < l[j]) :
    Calls Tryz.prog 26 #[v, .string (numS x), .func (.func 27) #[] #[]] w (RetFind l x w) := by
  obtain ⟨a, cap, rfl, hc⟩ := hv
  rw [List.length_map]
  have HC := Lib.hid (fun (h0 : l ≠ []) => (by obtain ⟨b, off, e, h⟩ := hc (by simpa using h0); exact ⟨b, off, e, fun k hk => by have := h k (by simpa using hk); simpa using this⟩ : ∃ b off, a = some ⟨b, off, none⟩ ∧ ∀ k (h : k < l.length), w.cell? ⟨b, off + k, none⟩ = some (.string (numS l[k]))))
  have HS := Lib.hid hs
  have HX := Lib.hid hx
  have HSO := Lib.hid hsort
  have hE := enters_of Tryz.func27 (by kernel_rfl) rfl
  clear hc hs hx hsort
  go_enter Tryz.func26, Tryz.ntmps26
  go_wp2_with fail
  go_loopw [9, 10] (fun i j wr => ∃ m n : Nat, m ≤ n ∧ n ≤ l.length ∧ i = .int .i64 m ∧ j = .int .i64 n ∧ Hid (∀ k (h : k < l.length), k < m → l[k] < x) ∧ Hid (∀ k (h : k < l.length), n ≤ k → x ≤ l[k]) ∧ Below w.heap.size w wr) (fun i j _ => (intOf j - intOf i).toNat)
  case atStart => exact ⟨0, l.length, by omega, by omega, rfl, rfl, Lib.hid (by intro k h h'; omega), Lib.hid (by intro k h h'; omega), Below.refl _ _⟩
  case round =>
    obtain ⟨m, n, hmn, hn, rfl, rfl, hlo, hhi, hB⟩ := hrel
    by_cases hlt : m < n
    · have hltI : (m : Int) < (n : Int) := by omega
      obtain ⟨h, hmid, h1, h2⟩ : ∃ h : Nat, ((m : Int) + (n : Int)) / 2 = (h : Int) ∧ m ≤ h ∧ h < n := ⟨(m + n) / 2, by omega, by omega, by omega⟩
      have hhl : h < l.length := by omega
      obtain ⟨b, off, rfl, hcell⟩ := HC.out (fun h0 => by rw [h0] at hhl; simp at hhl)
      have ck := keep hB (hcell h hhl)
      have hhI : (h : Int) < (l.length : Int) := by omega
      have HH := Lib.hid (show h < l.length ∧ m ≤ h ∧ h < n from ⟨hhl, h1, h2⟩)
      by_cases hlt2 : l[h] < x
      · have hneg : cmpQ l[h] x < 0 := cmpQ_neg.2 hlt2
        have HL2 := Lib.hid hlt2
        generalize hcq : cmpQ l[h] x = cq at *
        have HCQ := Lib.hid hcq
        clear hcell hlt2 hcq
        go_wp2_with fail
        refine (falls1_ok _ (HS.out h hhl) HX.out).mono ?_
        rintro e w1 ⟨rfl, hB1⟩
        rw [show cmpQ l[h] x = cq from HCQ.out]
        have hB2 : Below w.heap.size w w1 := below_trans' hB hB1
        clear hB1 ck
        go_wp2_with fail
        go_roundw
        case rel => exact ⟨h + 1, n, by omega, hn, by go_num, rfl, Lib.hid (fun k hk hkh => by
          by_cases hkm : k = h
          · subst hkm; exact HL2.out
          · have h3 := HSO.out k h hk hhl (by omega)
            have h4 := HL2.out
            grind), hhi, hB2⟩
        case measure => simp [intOf]; omega
      · have hneg : ¬ cmpQ l[h] x < 0 := fun h' => hlt2 (cmpQ_neg.1 h')
        have HL2 := Lib.hid hlt2
        generalize hcq : cmpQ l[h] x = cq at *
        have HCQ := Lib.hid hcq
        clear hcell hlt2 hcq
        go_wp2_with fail
        refine (falls1_ok _ (HS.out h hhl) HX.out).mono ?_
        rintro e w1 ⟨rfl, hB1⟩
        rw [show cmpQ l[h] x = cq from HCQ.out]
        have hB2 : Below w.heap.size w w1 := below_trans' hB hB1
        clear hB1 ck
        go_wp2_with fail
        go_roundw
        case rel => exact ⟨m, h, by omega, by omega, rfl, rfl, hlo, Lib.hid (fun k hk hkh => by
          have h4 := Rat.not_lt.1 HL2.out
          by_cases hkm : k = h
          · subst hkm; exact h4
          · have h3 := HSO.out h k hhl hk (by omega)
            grind), hB2⟩
        case measure => simp [intOf]; omega
    · have e : m = n := by omega
      subst e
      by_cases hml : m < l.length
      · obtain ⟨b, off, rfl, hcell⟩ := HC.out (fun h0 => by rw [h0] at hml; simp at hml)
        have ck := keep hB (hcell m hml)
        have hmI : (m : Int) < (l.length : Int) := by omega
        by_cases heq : l[m] = x
        · have hz : (cmpQ l[m] x == 0) = true := by rw [cmpQ_zero.2 heq]; rfl
          generalize hcq : cmpQ l[m] x = cq at *
          have HCQ := Lib.hid hcq
          clear hcell heq hcq
          go_wp2_with fail
          refine (falls1_ok _ (HS.out m hml) HX.out).mono ?_
          rintro e w1 ⟨rfl, hB1⟩
          rw [show cmpQ l[m] x = cq from HCQ.out]
          have hB2 : Below w.heap.size w w1 := below_trans' hB hB1
          clear hB1 ck
          go_wp2_with fail
          go_ret2
          exact ⟨m, true, rfl, hn, hlo.out, hhi.out, (fun h => by cases h), hB2⟩
        · have hz : (cmpQ l[m] x == 0) = false := by rw [beq_eq_false_iff_ne]; exact fun h => heq (cmpQ_zero.1 h)
          have HE := Lib.hid heq
          generalize hcq : cmpQ l[m] x = cq at *
          have HCQ := Lib.hid hcq
          clear hcell heq hcq
          go_wp2_with fail
          refine (falls1_ok _ (HS.out m hml) HX.out).mono ?_
          rintro e w1 ⟨rfl, hB1⟩
          rw [show cmpQ l[m] x = cq from HCQ.out]
          have hB2 : Below w.heap.size w w1 := below_trans' hB hB1
          clear hB1 ck
          go_wp2_with fail
          go_ret2
          exact ⟨m, false, rfl, hn, hlo.out, hhi.out, fun _ _ => HE.out, hB2⟩
      · have hmI : ¬ (m : Int) < (l.length : Int) := by omega
        go_wp2_with fail
        go_ret2
        exact ⟨m, false, rfl, hn, hlo.out, hhi.out, fun _ h => absurd h hml, hB⟩
end Go.Proofs.YtjpigaobeegbgaaGreatDoor
