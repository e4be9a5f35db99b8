/- Joined texts: WRef6, WRef7, WRef8, WRef9, WRefC. -/
import Derived.Test.YtjpigaobeegbgaaGreatDoorJ05
set_option linter.unusedVariables false
set_option linter.unusedSimpArgs false
/- Walks: the plan's reference: the ranges of a side. -/
namespace Go.Proofs.YtjpigaobeegbgaaGreatDoor
open Go.RowKit
def sideV (s : Side) : Value := .agg #[.int .i64 s.x, .int .i64 s.y, .int .i64 s.rise, .int .i64 s.run, .bool s.gable, .int .i64 s.plate, .int .i64 s.over]
theorem ran_of {n a b : Int} {v : Bool} (h : decide (n < a ∨ b < n) = v) : (v = false → Ran n a b) ∧ (v = true → ¬ Ran n a b) := by
  subst h; unfold Ran
  constructor
  · intro h; simp at h; omega
  · intro h; simp at h; omega
set_option maxHeartbeats 1600000 in
theorem rranged_any (s : Side) (w : World) :
    Calls Tryz.prog 74 #[sideV s] w (RetB (.bool (dec (RSide s))) w) := by
  have HS : Hid (RSide s ↔ (Ran s.x 0 65536 ∧ Ran s.y 0 65536 ∧ Ran s.plate 0 65536 ∧ Ran s.over 0 65536 ∧ (if s.gable then s.rise = 0 ∧ s.run = 0 else Ran s.rise 1 48 ∧ Ran s.run 1 48))) := Lib.hid Iff.rfl
  obtain ⟨x, y, rise, run, gable, plate, over⟩ := s
  unfold sideV
  dsimp only at HS ⊢
  obtain ⟨p1, e1⟩ : ∃ p, decide (x < 0 ∨ 65536 < x) = p := ⟨_, rfl⟩
  obtain ⟨p2, e2⟩ : ∃ p, decide (y < 0 ∨ 65536 < y) = p := ⟨_, rfl⟩
  obtain ⟨p3, e3⟩ : ∃ p, decide (plate < 0 ∨ 65536 < plate) = p := ⟨_, rfl⟩
  obtain ⟨p4, e4⟩ : ∃ p, decide (over < 0 ∨ 65536 < over) = p := ⟨_, rfl⟩
  obtain ⟨p5, e5⟩ : ∃ p, decide (rise < 1 ∨ 48 < rise) = p := ⟨_, rfl⟩
  obtain ⟨p6, e6⟩ : ∃ p, decide (run < 1 ∨ 48 < run) = p := ⟨_, rfl⟩
  obtain ⟨q5, d5⟩ : ∃ p, (rise == 0) = p := ⟨_, rfl⟩
  obtain ⟨q6, d6⟩ : ∃ p, (run == 0) = p := ⟨_, rfl⟩
  have E1 := Lib.hid (outside_any x 0 65536 · e1)
  have E2 := Lib.hid (outside_any y 0 65536 · e2)
  have E3 := Lib.hid (outside_any plate 0 65536 · e3)
  have E4 := Lib.hid (outside_any over 0 65536 · e4)
  have E5 := Lib.hid (outside_any rise 1 48 · e5)
  have E6 := Lib.hid (outside_any run 1 48 · e6)
  have R1 := Lib.hid (ran_of e1)
  have R2 := Lib.hid (ran_of e2)
  have R3 := Lib.hid (ran_of e3)
  have R4 := Lib.hid (ran_of e4)
  have R5 := Lib.hid (ran_of e5)
  have R6 := Lib.hid (ran_of e6)
  have D5 := Lib.hid d5
  have D6 := Lib.hid d6
  clear e1 e2 e3 e4 e5 e6
  cases p1
  case' true =>
    go_enter Tryz.func74, Tryz.ntmps74
    go_wp2_with fail
    refine (E1.out _).mono ?_
    rintro e w1 ⟨rfl, rfl⟩
    go_wp2_with fail
    go_ret
    exact ⟨congrArg Ending.returned (ret_bool (dec_false (fun h => (R1.out.2 (by trivial)) (HS.out.1 h).1)).symm), (by repeat (first | (with_reducible first | exact Below.refl _ _ | refine Below.setCell ?_ ?_ _ | refine below_drewN ?_ _ | refine Below.drew ?_ | refine below_alloc ?_ _ | refine below_trans'' (by assumption) ?_) | exact Nat.le_refl _ | (focus (simp; done)) | (focus (simp; omega)) | omega))⟩
  cases p2
  case' true =>
    go_enter Tryz.func74, Tryz.ntmps74
    go_wp2_with fail
    refine (E1.out _).mono ?_
    rintro e w1 ⟨rfl, rfl⟩
    go_wp2_with fail
    refine (E2.out _).mono ?_
    rintro e w1 ⟨rfl, rfl⟩
    go_wp2_with fail
    go_ret
    exact ⟨congrArg Ending.returned (ret_bool (dec_false (fun h => (R2.out.2 (by trivial)) (HS.out.1 h).2.1)).symm), (by repeat (first | (with_reducible first | exact Below.refl _ _ | refine Below.setCell ?_ ?_ _ | refine below_drewN ?_ _ | refine Below.drew ?_ | refine below_alloc ?_ _ | refine below_trans'' (by assumption) ?_) | exact Nat.le_refl _ | (focus (simp; done)) | (focus (simp; omega)) | omega))⟩
  cases p3
  case' true =>
    go_enter Tryz.func74, Tryz.ntmps74
    go_wp2_with fail
    refine (E1.out _).mono ?_
    rintro e w1 ⟨rfl, rfl⟩
    go_wp2_with fail
    refine (E2.out _).mono ?_
    rintro e w1 ⟨rfl, rfl⟩
    go_wp2_with fail
    refine (E3.out _).mono ?_
    rintro e w1 ⟨rfl, rfl⟩
    go_wp2_with fail
    go_ret
    exact ⟨congrArg Ending.returned (ret_bool (dec_false (fun h => (R3.out.2 (by trivial)) (HS.out.1 h).2.2.1)).symm), (by repeat (first | (with_reducible first | exact Below.refl _ _ | refine Below.setCell ?_ ?_ _ | refine below_drewN ?_ _ | refine Below.drew ?_ | refine below_alloc ?_ _ | refine below_trans'' (by assumption) ?_) | exact Nat.le_refl _ | (focus (simp; done)) | (focus (simp; omega)) | omega))⟩
  cases p4
  case' true =>
    go_enter Tryz.func74, Tryz.ntmps74
    go_wp2_with fail
    refine (E1.out _).mono ?_
    rintro e w1 ⟨rfl, rfl⟩
    go_wp2_with fail
    refine (E2.out _).mono ?_
    rintro e w1 ⟨rfl, rfl⟩
    go_wp2_with fail
    refine (E3.out _).mono ?_
    rintro e w1 ⟨rfl, rfl⟩
    go_wp2_with fail
    refine (E4.out _).mono ?_
    rintro e w1 ⟨rfl, rfl⟩
    go_wp2_with fail
    go_ret
    exact ⟨congrArg Ending.returned (ret_bool (dec_false (fun h => (R4.out.2 (by trivial)) (HS.out.1 h).2.2.2.1)).symm), (by repeat (first | (with_reducible first | exact Below.refl _ _ | refine Below.setCell ?_ ?_ _ | refine below_drewN ?_ _ | refine Below.drew ?_ | refine below_alloc ?_ _ | refine below_trans'' (by assumption) ?_) | exact Nat.le_refl _ | (focus (simp; done)) | (focus (simp; omega)) | omega))⟩
  cases gable
  case' true =>
    cases q5
    case' false =>
      clear D6 d6
      go_enter Tryz.func74, Tryz.ntmps74
      go_wp2_with fail
      refine (E1.out _).mono ?_
      rintro e w1 ⟨rfl, rfl⟩
      go_wp2_with fail
      refine (E2.out _).mono ?_
      rintro e w1 ⟨rfl, rfl⟩
      go_wp2_with fail
      refine (E3.out _).mono ?_
      rintro e w1 ⟨rfl, rfl⟩
      go_wp2_with fail
      refine (E4.out _).mono ?_
      rintro e w1 ⟨rfl, rfl⟩
      go_wp2_with fail
      go_ret
      exact ⟨congrArg Ending.returned (ret_bool (dec_false (fun h => by have h5 := (HS.out.1 h).2.2.2.2.1; have := D5.out; simp [h5] at this)).symm), (by repeat (first | (with_reducible first | exact Below.refl _ _ | refine Below.setCell ?_ ?_ _ | refine below_drewN ?_ _ | refine Below.drew ?_ | refine below_alloc ?_ _ | refine below_trans'' (by assumption) ?_) | exact Nat.le_refl _ | (focus (simp; done)) | (focus (simp; omega)) | omega))⟩
    cases q6
    case' false =>
      go_enter Tryz.func74, Tryz.ntmps74
      go_wp2_with fail
      refine (E1.out _).mono ?_
      rintro e w1 ⟨rfl, rfl⟩
      go_wp2_with fail
      refine (E2.out _).mono ?_
      rintro e w1 ⟨rfl, rfl⟩
      go_wp2_with fail
      refine (E3.out _).mono ?_
      rintro e w1 ⟨rfl, rfl⟩
      go_wp2_with fail
      refine (E4.out _).mono ?_
      rintro e w1 ⟨rfl, rfl⟩
      go_wp2_with fail
      go_ret
      exact ⟨congrArg Ending.returned (ret_bool (dec_false (fun h => by have h5 := (HS.out.1 h).2.2.2.2.2; have := D6.out; simp [h5] at this)).symm), (by repeat (first | (with_reducible first | exact Below.refl _ _ | refine Below.setCell ?_ ?_ _ | refine below_drewN ?_ _ | refine Below.drew ?_ | refine below_alloc ?_ _ | refine below_trans'' (by assumption) ?_) | exact Nat.le_refl _ | (focus (simp; done)) | (focus (simp; omega)) | omega))⟩
    go_enter Tryz.func74, Tryz.ntmps74
    go_wp2_with fail
    refine (E1.out _).mono ?_
    rintro e w1 ⟨rfl, rfl⟩
    go_wp2_with fail
    refine (E2.out _).mono ?_
    rintro e w1 ⟨rfl, rfl⟩
    go_wp2_with fail
    refine (E3.out _).mono ?_
    rintro e w1 ⟨rfl, rfl⟩
    go_wp2_with fail
    refine (E4.out _).mono ?_
    rintro e w1 ⟨rfl, rfl⟩
    go_wp2_with fail
    go_ret
    exact ⟨congrArg Ending.returned (ret_bool (dec_true (HS.out.2 ⟨R1.out.1 (by trivial), R2.out.1 (by trivial), R3.out.1 (by trivial), R4.out.1 (by trivial), by have := D5.out; have := D6.out; simp_all⟩)).symm), (by repeat (first | (with_reducible first | exact Below.refl _ _ | refine Below.setCell ?_ ?_ _ | refine below_drewN ?_ _ | refine Below.drew ?_ | refine below_alloc ?_ _ | refine below_trans'' (by assumption) ?_) | exact Nat.le_refl _ | (focus (simp; done)) | (focus (simp; omega)) | omega))⟩
  clear D5 D6 d5 d6
  cases p5
  case' true =>
    go_enter Tryz.func74, Tryz.ntmps74
    go_wp2_with fail
    refine (E1.out _).mono ?_
    rintro e w1 ⟨rfl, rfl⟩
    go_wp2_with fail
    refine (E2.out _).mono ?_
    rintro e w1 ⟨rfl, rfl⟩
    go_wp2_with fail
    refine (E3.out _).mono ?_
    rintro e w1 ⟨rfl, rfl⟩
    go_wp2_with fail
    refine (E4.out _).mono ?_
    rintro e w1 ⟨rfl, rfl⟩
    go_wp2_with fail
    refine (E5.out _).mono ?_
    rintro e w1 ⟨rfl, rfl⟩
    go_wp2_with fail
    go_ret
    exact ⟨congrArg Ending.returned (ret_bool (dec_false (fun h => (R5.out.2 (by trivial)) (HS.out.1 h).2.2.2.2.1)).symm), (by repeat (first | (with_reducible first | exact Below.refl _ _ | refine Below.setCell ?_ ?_ _ | refine below_drewN ?_ _ | refine Below.drew ?_ | refine below_alloc ?_ _ | refine below_trans'' (by assumption) ?_) | exact Nat.le_refl _ | (focus (simp; done)) | (focus (simp; omega)) | omega))⟩
  cases p6
  case' true =>
    go_enter Tryz.func74, Tryz.ntmps74
    go_wp2_with fail
    refine (E1.out _).mono ?_
    rintro e w1 ⟨rfl, rfl⟩
    go_wp2_with fail
    refine (E2.out _).mono ?_
    rintro e w1 ⟨rfl, rfl⟩
    go_wp2_with fail
    refine (E3.out _).mono ?_
    rintro e w1 ⟨rfl, rfl⟩
    go_wp2_with fail
    refine (E4.out _).mono ?_
    rintro e w1 ⟨rfl, rfl⟩
    go_wp2_with fail
    refine (E5.out _).mono ?_
    rintro e w1 ⟨rfl, rfl⟩
    go_wp2_with fail
    refine (E6.out _).mono ?_
    rintro e w1 ⟨rfl, rfl⟩
    go_wp2_with fail
    go_ret
    exact ⟨congrArg Ending.returned (ret_bool (dec_false (fun h => (R6.out.2 (by trivial)) (HS.out.1 h).2.2.2.2.2)).symm), (by repeat (first | (with_reducible first | exact Below.refl _ _ | refine Below.setCell ?_ ?_ _ | refine below_drewN ?_ _ | refine Below.drew ?_ | refine below_alloc ?_ _ | refine below_trans'' (by assumption) ?_) | exact Nat.le_refl _ | (focus (simp; done)) | (focus (simp; omega)) | omega))⟩
  go_enter Tryz.func74, Tryz.ntmps74
  go_wp2_with fail
  refine (E1.out _).mono ?_
  rintro e w1 ⟨rfl, rfl⟩
  go_wp2_with fail
  refine (E2.out _).mono ?_
  rintro e w1 ⟨rfl, rfl⟩
  go_wp2_with fail
  refine (E3.out _).mono ?_
  rintro e w1 ⟨rfl, rfl⟩
  go_wp2_with fail
  refine (E4.out _).mono ?_
  rintro e w1 ⟨rfl, rfl⟩
  go_wp2_with fail
  refine (E5.out _).mono ?_
  rintro e w1 ⟨rfl, rfl⟩
  go_wp2_with fail
  refine (E6.out _).mono ?_
  rintro e w1 ⟨rfl, rfl⟩
  go_wp2_with fail
  go_ret
  exact ⟨congrArg Ending.returned (ret_bool (dec_true (HS.out.2 ⟨R1.out.1 (by trivial), R2.out.1 (by trivial), R3.out.1 (by trivial), R4.out.1 (by trivial), R5.out.1 (by trivial), R6.out.1 (by trivial)⟩)).symm), (by repeat (first | (with_reducible first | exact Below.refl _ _ | refine Below.setCell ?_ ?_ _ | refine below_drewN ?_ _ | refine Below.drew ?_ | refine below_alloc ?_ _ | refine below_trans'' (by assumption) ?_) | exact Nat.le_refl _ | (focus (simp; done)) | (focus (simp; omega)) | omega))⟩
end Go.Proofs.YtjpigaobeegbgaaGreatDoor
/- Walks: the plan's reference: crossed sides. -/
namespace Go.Proofs.YtjpigaobeegbgaaGreatDoor
open Go.RowKit
/-- rings in memory -/
def IsRings (w : World) (v : Value) (P : List Ring) : Prop := ∃ (a : Option Addr) (cap : Nat), v = .slice a P.length cap ∧ (P ≠ [] → ∃ b off, a = some ⟨b, off, none⟩ ∧ ∀ k, k < P.length → ∃ u, w.cell? ⟨b, off + k, none⟩ = some u ∧ IsRing w u (rg P k))
theorem IsRings.below {w w' : World} {v : Value} {P : List Ring} (h : IsRings w v P) (hB : Below w.heap.size w w') : IsRings w' v P := by
  obtain ⟨a, cap, rfl, h⟩ := h
  refine ⟨a, cap, rfl, fun hl => ?_⟩
  obtain ⟨b, off, rfl, hc⟩ := h hl
  refine ⟨b, off, rfl, fun k hk => ?_⟩
  obtain ⟨u, h1, h2⟩ := hc k hk
  exact ⟨u, keep hB h1, h2.below hB⟩
theorem IsRings.drewN {w : World} {v : Value} {P : List Ring} (h : IsRings w v P) (n : Nat) : IsRings (w.drewN n) v P := h.below (below_drewN (Below.refl _ _) _)
def N4 (P : List Ring) (r i s k : Nat) : Prop := ∀ k', k' < k → ¬ Meet P r i s k'
def N3 (P : List Ring) (r i s : Nat) : Prop := ∀ s', r ≤ s' → s' < s → N4 P r i s' (rg P s').length
def N2 (P : List Ring) (r i : Nat) : Prop := ∀ i', i' < i → N3 P r i' P.length
def N1 (P : List Ring) (r : Nat) : Prop := ∀ r', r' < r → N2 P r' (rg P r').length
theorem N4.next {P : List Ring} {r i s k : Nat} (h : N4 P r i s k) (h1 : ¬ Meet P r i s k) : N4 P r i s (k + 1) := fun k' hk => by
  by_cases e : k' < k
  · exact h k' e
  · have : k' = k := by omega
    subst this; exact h1
theorem N3.next {P : List Ring} {r i s : Nat} (h : N3 P r i s) (h1 : N4 P r i s (rg P s).length) : N3 P r i (s + 1) := fun s' hr hs => by
  by_cases e : s' < s
  · exact h s' hr e
  · have : s' = s := by omega
    subst this; exact h1
theorem N2.next {P : List Ring} {r i : Nat} (h : N2 P r i) (h1 : N3 P r i P.length) : N2 P r (i + 1) := fun i' hi => by
  by_cases e : i' < i
  · exact h i' e
  · have : i' = i := by omega
    subst this; exact h1
theorem N1.next {P : List Ring} {r : Nat} (h : N1 P r) (h1 : N2 P r (rg P r).length) : N1 P (r + 1) := fun r' hr => by
  by_cases e : r' < r
  · exact h r' e
  · have : r' = r := by omega
    subst this; exact h1
theorem N1.all {P : List Ring} (h : N1 P P.length) : ¬ Crossed P := by
  rintro ⟨r, i, s, k, h1, h2, h3, h4, h5, h6⟩
  exact h r h1 i h2 s h3 h4 k h5 h6
set_option maxRecDepth 100000 in
set_option maxHeartbeats 3200000 in
theorem crossed_any (P : List Ring) (v : Value) (w : World) (hv : IsRings w v P) (hP : P.length ≤ 1000) (hl : ∀ r, r < P.length → (rg P r).length ≤ 1000) :
    Calls Tryz.prog 76 #[v] w (RetQ (.bool (dec (Crossed P))) w) := by
  obtain ⟨a, cap, rfl, h⟩ := hv
  have HC := Lib.hid h
  have HL := Lib.hid hl
  clear h hl
  go_enter Tryz.func76, Tryz.ntmps76
  go_wp2_with fail
  go_loopw [3] (fun i wr => ∃ r : Nat, r ≤ P.length ∧ i = .int .i64 r ∧ Hid (N1 P r) ∧ ∃ n, wr = w.drewN n) (fun i _ => P.length - (intOf i).toNat)
  case atStart => exact ⟨0, by omega, rfl, Lib.hid (fun j h => by omega), 0, rfl⟩
  case round =>
    obtain ⟨r, hr, rfl, hn1, n, rfl⟩ := hrel
    by_cases hrP : r < P.length
    · obtain ⟨b, off, rfl, hc⟩ := HC.out (fun h => by rw [h] at hrP; simp at hrP)
      obtain ⟨ur, cr, hur⟩ := hc r hrP
      have hlr := HL.out r hrP
      have HUR := Lib.hid (fun n => hur.drewN n)
      obtain ⟨ar, capr, rfl, _⟩ := hur
      have HCC := Lib.hid hc
      clear hc
      go_wp2_with fail
      go_loopw [4] (fun x wr => ∃ i : Nat, i ≤ (rg P r).length ∧ x = .int .i64 i ∧ Hid (N2 P r i) ∧ ∃ n, wr = w.drewN n) (fun x _ => (rg P r).length - (intOf x).toNat)
      case atStart => exact ⟨0, by omega, rfl, Lib.hid (fun j h => by omega), _, rfl⟩
      case round =>
        obtain ⟨i, hi, rfl, hn2, n2, rfl⟩ := hrel
        by_cases hir : i < (rg P r).length
        · go_wp2_with fail
          go_loopw [5] (fun x wr => ∃ s : Nat, r ≤ s ∧ s ≤ P.length ∧ x = .int .i64 s ∧ Hid (N3 P r i s) ∧ ∃ n, wr = w.drewN n) (fun x _ => P.length - (intOf x).toNat)
          case atStart => exact ⟨r, by omega, by omega, rfl, Lib.hid (fun j h1 h2 => by omega), _, rfl⟩
          case round =>
            obtain ⟨s, hrs, hs, rfl, hn3, n3, rfl⟩ := hrel
            by_cases hsP : s < P.length
            · obtain ⟨us, cs, hus⟩ := HCC.out s hsP
              have hls := HL.out s hsP
              have HUS := Lib.hid (fun n => hus.drewN n)
              obtain ⟨as', caps, rfl, _⟩ := hus
              go_wp2_with fail
              go_loopw [6] (fun x wr => ∃ k : Nat, k ≤ (rg P s).length ∧ x = .int .i64 k ∧ Hid (N4 P r i s k) ∧ ∃ n, wr = w.drewN n) (fun x _ => (rg P s).length - (intOf x).toNat)
              case atStart => exact ⟨0, by omega, rfl, Lib.hid (fun j h => by omega), _, rfl⟩
              case round =>
                obtain ⟨k, hk, rfl, hn4, n4, rfl⟩ := hrel
                by_cases hks : k < (rg P s).length
                · have HTC := Lib.hid (fun n => touch_any (rg P r) (rg P s) _ _ i k (w.drewN n) (HUR.out n) (HUS.out n) hir hks hlr hls)
                  have HSK : Hid (Skip P r i s k ↔ (r = s ∧ (k ≤ i ∨ k = i + 1 ∨ (i = 0 ∧ k + 1 = (rg P r).length)))) := Lib.hid Iff.rfl
                  have HM : Hid (Meet P r i s k ↔ (¬ Skip P r i s k ∧ touchB (sd (rg P r) i) (nx (rg P r) i) (sd (rg P s) k) (nx (rg P s) k) = true)) := Lib.hid (by rw [touchB_iff]; exact Iff.rfl)
                  by_cases e1 : r = s
                  · have e1' : ((r : Int) == (s : Int)) = true := by simp; omega
                    have e1'' : (r == s) = true := by simpa using e1
                    have E1 := Lib.hid e1
                    clear e1
                    by_cases e2 : k ≤ i
                    · have HSKIP : Hid (Skip P r i s k) := Lib.hid (HSK.out.2 ⟨E1.out, .inl e2⟩)
                      go_wp2_with fail
                      go_roundw
                      case rel => exact ⟨k + 1, hks, by go_num, Lib.hid (hn4.out.next (fun hm => (HM.out.1 hm).1 HSKIP.out)), _, rfl⟩
                      case measure => simp [intOf]; omega
                    · by_cases e3 : k = i + 1
                      · have e3' : ((k : Int) == (i : Int) + 1) = true := by simp; omega
                        have E3 := Lib.hid e3
                        clear e3
                        have HSKIP : Hid (Skip P r i s k) := Lib.hid (HSK.out.2 ⟨E1.out, .inr (.inl E3.out)⟩)
                        go_wp2_with fail
                        go_roundw
                        case rel => exact ⟨k + 1, hks, by go_num, Lib.hid (hn4.out.next (fun hm => (HM.out.1 hm).1 HSKIP.out)), _, rfl⟩
                        case measure => simp [intOf]; omega
                      · have e3' : ((k : Int) == (i : Int) + 1) = false := by simp; omega
                        have E3 := Lib.hid e3
                        clear e3
                        by_cases e4 : i = 0
                        · have e4' : ((i : Int) == 0) = true := by simp; omega
                          have E4 := Lib.hid e4
                          clear e4
                          by_cases e5 : k + 1 = (rg P r).length
                          · have e5' : ((k : Int) == ((rg P r).length : Int) - 1) = true := by simp; omega
                            have E5 := Lib.hid e5
                            clear e5
                            have HSKIP : Hid (Skip P r i s k) := Lib.hid (HSK.out.2 ⟨E1.out, .inr (.inr ⟨E4.out, E5.out⟩)⟩)
                            go_wp2_with fail
                            go_roundw
                            case rel => exact ⟨k + 1, hks, by go_num, Lib.hid (hn4.out.next (fun hm => (HM.out.1 hm).1 HSKIP.out)), _, rfl⟩
                            case measure => simp [intOf]; omega
                          · have e5' : ((k : Int) == ((rg P r).length : Int) - 1) = false := by simp; omega
                            have E5 := Lib.hid e5
                            clear e5
                            have HNS : Hid (¬ Skip P r i s k) := Lib.hid (fun hh => by have h1 := (HSK.out.1 hh).2; have := E3.out; have := E5.out; omega)
                            generalize touchB (sd (rg P r) i) (nx (rg P r) i) (sd (rg P s) k) (nx (rg P s) k) = tb at *
                            cases tb
                            · go_wp2_with fail
                              go_quiet ((go_at_call 134; exact quietQ (HTC.out _)))
                              go_wp2_with fail
                              go_roundw
                              case rel => exact ⟨k + 1, hks, by go_num, Lib.hid (hn4.out.next (fun hm => by have := (HM.out.1 hm).2; cases this)), _, by first | rfl | exact drewN_add _ _ _⟩
                              case measure => simp [intOf]; omega
                            · go_wp2_with fail
                              go_quiet ((go_at_call 134; exact quietQ (HTC.out _)))
                              go_wp2_with fail
                              go_ret
                              exact ⟨congrArg Ending.returned (ret_bool (dec_true ⟨r, i, s, k, hrP, hir, hrs, hsP, hks, HM.out.2 ⟨HNS.out, by trivial⟩⟩).symm), _, by first | rfl | exact drewN_add _ _ _⟩
                        · have e4' : ((i : Int) == 0) = false := by simp; omega
                          have E4 := Lib.hid e4
                          clear e4
                          have HNS : Hid (¬ Skip P r i s k) := Lib.hid (fun hh => by have h1 := (HSK.out.1 hh).2; have := E3.out; have := E4.out; omega)
                          generalize touchB (sd (rg P r) i) (nx (rg P r) i) (sd (rg P s) k) (nx (rg P s) k) = tb at *
                          cases tb
                          · go_wp2_with fail
                            go_quiet ((go_at_call 134; exact quietQ (HTC.out _)))
                            go_wp2_with fail
                            go_roundw
                            case rel => exact ⟨k + 1, hks, by go_num, Lib.hid (hn4.out.next (fun hm => by have := (HM.out.1 hm).2; cases this)), _, by first | rfl | exact drewN_add _ _ _⟩
                            case measure => simp [intOf]; omega
                          · go_wp2_with fail
                            go_quiet ((go_at_call 134; exact quietQ (HTC.out _)))
                            go_wp2_with fail
                            go_ret
                            exact ⟨congrArg Ending.returned (ret_bool (dec_true ⟨r, i, s, k, hrP, hir, hrs, hsP, hks, HM.out.2 ⟨HNS.out, by trivial⟩⟩).symm), _, by first | rfl | exact drewN_add _ _ _⟩
                  · have e1' : ((r : Int) == (s : Int)) = false := by simp; omega
                    have e1'' : (r == s) = false := by simpa using e1
                    have E1 := Lib.hid e1
                    clear e1
                    have HNS : Hid (¬ Skip P r i s k) := Lib.hid (fun hh => E1.out (HSK.out.1 hh).1)
                    generalize touchB (sd (rg P r) i) (nx (rg P r) i) (sd (rg P s) k) (nx (rg P s) k) = tb at *
                    cases tb
                    · go_wp2_with fail
                      go_quiet ((go_at_call 134; exact quietQ (HTC.out _)))
                      go_wp2_with fail
                      go_roundw
                      case rel => exact ⟨k + 1, hks, by go_num, Lib.hid (hn4.out.next (fun hm => by have := (HM.out.1 hm).2; cases this)), _, by first | rfl | exact drewN_add _ _ _⟩
                      case measure => simp [intOf]; omega
                    · go_wp2_with fail
                      go_quiet ((go_at_call 134; exact quietQ (HTC.out _)))
                      go_wp2_with fail
                      go_ret
                      exact ⟨congrArg Ending.returned (ret_bool (dec_true ⟨r, i, s, k, hrP, hir, hrs, hsP, hks, HM.out.2 ⟨HNS.out, by trivial⟩⟩).symm), _, by first | rfl | exact drewN_add _ _ _⟩
                · have e : k = (rg P s).length := by omega
                  subst e
                  go_wp2_with fail
                  go_roundw
                  case rel => exact ⟨s + 1, by omega, by omega, by go_num, Lib.hid (hn3.out.next hn4.out), _, rfl⟩
                  case measure => simp [intOf]; omega
            · have e : s = P.length := by omega
              subst e
              go_wp2_with fail
              go_roundw
              case rel => exact ⟨i + 1, by omega, by go_num, Lib.hid (hn2.out.next hn3.out), _, rfl⟩
              case measure => simp [intOf]; omega
        · have e : i = (rg P r).length := by omega
          subst e
          go_wp2_with fail
          go_roundw
          case rel => exact ⟨r + 1, by omega, by go_num, Lib.hid (hn1.out.next hn2.out), _, rfl⟩
          case measure => simp [intOf]; omega
    · have e : r = P.length := by omega
      subst e
      go_wp2_with fail
      go_ret
      exact ⟨congrArg Ending.returned (ret_bool (dec_false hn1.out.all).symm), _, rfl⟩
end Go.Proofs.YtjpigaobeegbgaaGreatDoor
/- Walks: the plan's reference: how rings are placed. -/
namespace Go.Proofs.YtjpigaobeegbgaaGreatDoor
open Go.RowKit
theorem SideAt.first {w : World} {b o : Nat} {s : Side} (h : SideAt w b (o + 0 * 7) s) : w.cell? ⟨b, o, none⟩ = some (.int .i64 s.x) ∧ w.cell? ⟨b, o + 1, none⟩ = some (.int .i64 s.y) := by
  obtain ⟨h0, h1, _⟩ := h
  simp only [Nat.zero_mul, Nat.add_zero] at h0 h1
  exact ⟨h0, h1⟩
/-- ring r is placed among the first rings -/
def PAt (P : List Ring) (r s : Nat) : Prop := s ≠ r → insideB (rg P s) (sd (rg P r) 0).x (sd (rg P r) 0).y = decide (s = 0)
def PRing (P : List Ring) (r : Nat) : Prop := twice (rg P r) < 0 ∧ ∀ s, s < P.length → PAt P r s
theorem placed_iff {P : List Ring} : Placed P ↔ 0 < twice (rg P 0) ∧ ∀ r, 1 ≤ r → r < P.length → PRing P r := Iff.rfl
set_option maxRecDepth 100000 in
set_option maxHeartbeats 3200000 in
theorem placed_any (P : List Ring) (v : Value) (w : World) (hv : IsRings w v P) (hP : P.length ≤ 1000) (hl : ∀ r, r < P.length → (rg P r).length ≤ 1000) (hne : P ≠ []) (hnes : ∀ r, r < P.length → rg P r ≠ []) (hr : ∀ r, r < P.length → RRing (rg P r)) :
    Calls Tryz.prog 77 #[v] w (RetQ (.bool (dec (Placed P))) w) := by
  obtain ⟨a, cap, rfl, h⟩ := hv
  have hP0 : 0 < P.length := List.length_pos_iff.2 hne
  obtain ⟨b, off, rfl, hc⟩ := h hne
  have HL := Lib.hid hl
  have HR := Lib.hid hr
  have HN := Lib.hid hnes
  obtain ⟨u0, cu0, hu0⟩ := hc 0 hP0
  have HTW := Lib.hid (fun r u (hr : r < P.length) n (hu : IsRing w u (rg P r)) => twice_any (rg P r) u (w.drewN n) (hu.drewN n) (HL.out r hr) (HR.out r hr))
  have hT0 := Lib.hid (HTW.out 0 u0 hP0 0 hu0)
  have cu0' : w.cell? ⟨b, off, none⟩ = some u0 := by simpa using cu0
  have HC := Lib.hid hc
  clear h hl hr hnes hc cu0 hu0 hne
  by_cases h0 : twice (rg P 0) ≤ 0
  · have HF := Lib.hid (dec_false (p := Placed P) (fun hp => by have := hp.1; omega))
    generalize twice (rg P 0) = t at *
    go_enter Tryz.func77, Tryz.ntmps77
    go_wp2_with fail
    refine hT0.out.mono ?_
    rintro e w1 ⟨rfl, n1, rfl⟩
    go_wp2_with fail
    go_ret
    exact ⟨congrArg Ending.returned (ret_bool HF.out.symm), _, by first | rfl | exact drewN_add _ _ _⟩
  · have H0 : Hid (0 < twice (rg P 0)) := Lib.hid (by omega)
    generalize htt : twice (rg P 0) = t at *
    have HTT := Lib.hid htt
    clear htt
    go_enter Tryz.func77, Tryz.ntmps77
    go_wp2_with fail
    refine hT0.out.mono ?_
    rintro e w1 ⟨rfl, n1, rfl⟩
    go_wp2_with fail
    go_loopw [3] (fun i wr => ∃ r : Nat, 1 ≤ r ∧ r ≤ P.length ∧ i = .int .i64 r ∧ Hid (∀ r', 1 ≤ r' → r' < r → PRing P r') ∧ ∃ n, wr = w.drewN n) (fun i _ => P.length - (intOf i).toNat)
    case atStart => exact ⟨1, by omega, by omega, rfl, Lib.hid (fun j h1 h2 => by omega), _, rfl⟩
    case round =>
      obtain ⟨r, hr1, hr, rfl, hn1, n, rfl⟩ := hrel
      by_cases hrP : r < P.length
      · obtain ⟨ur, cr, hur⟩ := HC.out r hrP
        have hT := Lib.hid (fun n => HTW.out r ur hrP n hur)
        obtain ⟨ar, capr, rfl, hcr⟩ := hur
        obtain ⟨br, offr, rfl, hcr2⟩ := hcr (HN.out r hrP)
        have hlr0 : 0 < (rg P r).length := List.length_pos_iff.2 (HN.out r hrP)
        obtain ⟨d0, d1⟩ := (hcr2 0 hlr0).first
        have HPR : Hid (PRing P r ↔ (twice (rg P r) < 0 ∧ ∀ s, s < P.length → PAt P r s)) := Lib.hid Iff.rfl
        clear hcr hcr2
        by_cases h1 : 0 ≤ twice (rg P r)
        · have HF := Lib.hid (dec_false (p := Placed P) (fun hp => by have := (hp.2 r hr1 hrP).1; omega))
          generalize twice (rg P r) = tr at *
          go_wp2_with fail
          refine (hT.out _).mono ?_
          rintro e w1 ⟨rfl, n2, rfl⟩
          go_wp2_with fail
          go_ret
          exact ⟨congrArg Ending.returned (ret_bool HF.out.symm), _, by first | rfl | exact drewN_add _ _ _⟩
        · have H1 : Hid (twice (rg P r) < 0) := Lib.hid (by omega)
          generalize twice (rg P r) = tr at *
          have HXY : Hid (∀ s, PAt P r s ↔ (s ≠ r → insideB (rg P s) (sd (rg P r) 0).x (sd (rg P r) 0).y = decide (s = 0))) := Lib.hid (fun s => Iff.rfl)
          generalize (sd (rg P r) 0).x = x at *
          generalize (sd (rg P r) 0).y = y at *
          go_wp2_with fail
          refine (hT.out _).mono ?_
          rintro e w1 ⟨rfl, n2, rfl⟩
          go_wp2_with fail
          go_loopw [4] (fun i wr => ∃ s : Nat, s ≤ P.length ∧ i = .int .i64 s ∧ Hid (∀ s', s' < s → PAt P r s') ∧ ∃ n, wr = w.drewN n) (fun i _ => P.length - (intOf i).toNat)
          case atStart => exact ⟨0, by omega, rfl, Lib.hid (fun j h1 => by omega), _, by first | rfl | exact drewN_add _ _ _⟩
          case round =>
            obtain ⟨s, hs, rfl, hn2, n3, rfl⟩ := hrel
            by_cases hsP : s < P.length
            · obtain ⟨us, cs, hus⟩ := HC.out s hsP
              have hI := Lib.hid (fun n => inside_any (rg P s) us x y (w.drewN n) (hus.drewN n) (HL.out s hsP))
              have hX := Lib.hid (HXY.out s)
              clear hus
              generalize insideB (rg P s) x y = ib at *
              by_cases hsr : s = r
              · have e1 : ((s : Int) != (r : Int)) = false := by simp; omega
                have e2 : (s != r) = false := by simp; omega
                have HSR := Lib.hid hsr
                clear hsr
                go_wp2_with fail
                go_quiet (fail)
                go_wp2_with fail
                go_roundw
                case rel => exact ⟨s + 1, hsP, by go_num, Lib.hid (fun s' h' => by by_cases e : s' < s; exact hn2.out s' e; (have : s' = s := by omega); subst this; exact hX.out.2 (fun hh => absurd HSR.out hh)), _, by first | rfl | exact drewN_add _ _ _⟩
                case measure => simp [intOf]; omega
              · have e1 : ((s : Int) != (r : Int)) = true := by simp; omega
                have e2 : (s != r) = true := by simp; omega
                have HSR := Lib.hid hsr
                clear hsr
                by_cases hs0 : s = 0
                · have e3 : ((s : Int) == 0) = true := by simp; omega
                  have HS0 := Lib.hid hs0
                  clear hs0
                  cases ib
                  · go_wp2_with fail
                    go_quiet ((go_at_call 136; exact quietQ (hI.out _)))
                    go_wp2_with fail
                    go_ret
                    exact ⟨congrArg Ending.returned (ret_bool (dec_false (fun hp => by have h5 := hX.out.1 ((hp.2 r hr1 hrP).2 s hsP) HSR.out; simp [HS0.out] at h5)).symm), _, by first | rfl | exact drewN_add _ _ _⟩
                  · go_wp2_with fail
                    go_quiet ((go_at_call 136; exact quietQ (hI.out _)))
                    go_wp2_with fail
                    go_roundw
                    case rel => exact ⟨s + 1, hsP, by go_num, Lib.hid (fun s' h' => by by_cases e : s' < s; exact hn2.out s' e; (have : s' = s := by omega); subst this; exact hX.out.2 (fun hh => by simp [HS0.out])), _, by first | rfl | exact drewN_add _ _ _⟩
                    case measure => simp [intOf]; omega
                · have e3 : ((s : Int) == 0) = false := by simp; omega
                  have HS0 := Lib.hid hs0
                  clear hs0
                  cases ib
                  · go_wp2_with fail
                    go_quiet ((go_at_call 136; exact quietQ (hI.out _)))
                    go_wp2_with fail
                    go_roundw
                    case rel => exact ⟨s + 1, hsP, by go_num, Lib.hid (fun s' h' => by by_cases e : s' < s; exact hn2.out s' e; (have : s' = s := by omega); subst this; exact hX.out.2 (fun hh => by simp [HS0.out])), _, by first | rfl | exact drewN_add _ _ _⟩
                    case measure => simp [intOf]; omega
                  · go_wp2_with fail
                    go_quiet ((go_at_call 136; exact quietQ (hI.out _)))
                    go_wp2_with fail
                    go_ret
                    exact ⟨congrArg Ending.returned (ret_bool (dec_false (fun hp => by have h5 := hX.out.1 ((hp.2 r hr1 hrP).2 s hsP) HSR.out; simp [HS0.out] at h5)).symm), _, by first | rfl | exact drewN_add _ _ _⟩
            · have e : s = P.length := by omega
              subst e
              go_wp2_with fail
              go_roundw
              case rel => exact ⟨r + 1, by omega, by omega, by go_num, Lib.hid (fun r' h1' h' => by by_cases e : r' < r; exact hn1.out r' h1' e; (have : r' = r := by omega); subst this; exact HPR.out.2 ⟨H1.out, hn2.out⟩), _, rfl⟩
              case measure => simp [intOf]; omega
      · have e : r = P.length := by omega
        subst e
        go_wp2_with fail
        go_ret
        exact ⟨congrArg Ending.returned (ret_bool (dec_true (placed_iff.2 ⟨by rw [HTT.out]; exact H0.out, hn1.out⟩)).symm), _, rfl⟩
end Go.Proofs.YtjpigaobeegbgaaGreatDoor
/- Walks: the plan's reference: reflex corners. -/
namespace Go.Proofs.YtjpigaobeegbgaaGreatDoor
open Go.RowKit
/-- some side so far is no gable -/
def SomeTo (P : List Ring) (r i : Nat) : Prop := ∃ r' i', (r' < r ∨ (r' = r ∧ i' < i)) ∧ r' < P.length ∧ i' < (rg P r').length ∧ (sd (rg P r') i').gable = false
theorem someTo_zero (P : List Ring) : ¬ SomeTo P 0 0 := by rintro ⟨r, i, h, _⟩; omega
theorem someTo_next {P : List Ring} {r : Nat} : SomeTo P (r + 1) 0 ↔ SomeTo P r (rg P r).length := by
  constructor
  · rintro ⟨r', i', h, h1, h2, h3⟩
    refine ⟨r', i', ?_, h1, h2, h3⟩
    by_cases e : r' = r
    · subst e; exact .inr ⟨rfl, h2⟩
    · exact .inl (by omega)
  · rintro ⟨r', i', h, h1, h2, h3⟩
    exact ⟨r', i', by omega, h1, h2, h3⟩
theorem someTo_step {P : List Ring} {r i : Nat} (hr : r < P.length) (hi : i < (rg P r).length) : SomeTo P r (i + 1) ↔ (SomeTo P r i ∨ (sd (rg P r) i).gable = false) := by
  constructor
  · rintro ⟨r', i', h, h1, h2, h3⟩
    by_cases e : r' = r ∧ i' = i
    · obtain ⟨rfl, rfl⟩ := e; exact .inr h3
    · exact .inl ⟨r', i', by omega, h1, h2, h3⟩
  · rintro (⟨r', i', h, h1, h2, h3⟩ | h)
    · exact ⟨r', i', by omega, h1, h2, h3⟩
    · exact ⟨r, i, by omega, hr, hi, h⟩
theorem someTo_all {P : List Ring} : SomeTo P P.length 0 ↔ ∃ r i, r < P.length ∧ i < (rg P r).length ∧ (sd (rg P r) i).gable = false := by
  constructor
  · rintro ⟨r', i', h, h1, h2, h3⟩
    exact ⟨r', i', h1, h2, h3⟩
  · rintro ⟨r', i', h1, h2, h3⟩
    exact ⟨r', i', .inl h1, h1, h2, h3⟩
theorem dec_congr {p q : Prop} (h : p ↔ q) : dec p = dec q := by
  by_cases hp : p
  · rw [dec_true hp, dec_true (h.1 hp)]
  · rw [dec_false hp, dec_false (fun hq => hp (h.2 hq))]
set_option maxRecDepth 100000 in
set_option maxHeartbeats 3200000 in
theorem reflex_any (P : List Ring) (v : Value) (w : World) (hv : IsRings w v P) (hP : P.length ≤ 1000) (hl : ∀ r, r < P.length → (rg P r).length ≤ 1000) (hr : ∀ r, r < P.length → RRing (rg P r)) :
    Calls Tryz.prog 78 #[v] w (RetB (.bool (dec (Reflex P))) w) := by
  obtain ⟨a, cap, rfl, h⟩ := hv
  have HL := Lib.hid hl
  have HR := Lib.hid hr
  have HC := Lib.hid h
  clear h hl hr
  go_enter Tryz.func78, Tryz.ntmps78
  go_wp2_with fail
  go_loopw [3, 4] (fun o i wr => ∃ r : Nat, r ≤ P.length ∧ i = .int .i64 r ∧ o = .bool (dec (SomeTo P r 0)) ∧ Hid (∀ r', r' < r → ∀ i, i < (rg P r').length → ¬ Bad (rg P r') i) ∧ Below w.heap.size w wr) (fun _ i _ => P.length - (intOf i).toNat)
  case atStart => exact ⟨0, by omega, rfl, ret_bool (dec_false (someTo_zero P)).symm, Lib.hid (fun j h1 => by omega), Below.refl _ _⟩
  case round =>
    obtain ⟨r, hr, rfl, rfl, hn1, hBr⟩ := hrel
    by_cases hrP : r < P.length
    · obtain ⟨b, off, rfl, hc⟩ := HC.out (fun h => by rw [h] at hrP; simp at hrP)
      obtain ⟨ur, cr, hur⟩ := hc r hrP
      have cr' := keep hBr cr
      have hT := Lib.hid (fun W (hW : Below w.heap.size w W) i hi => turn_any (rg P r) ur i W (hur.below hW) hi (HL.out r hrP) (HR.out r hrP))
      have hLr := HL.out r hrP
      obtain ⟨ar, capr, rfl, hcr⟩ := hur
      have HCR := Lib.hid hcr
      clear hcr hc cr
      go_wp2_with fail
      go_loopw [3, 6] (fun o x wr => ∃ i : Nat, i ≤ (rg P r).length ∧ x = .int .i64 i ∧ o = .bool (dec (SomeTo P r i)) ∧ Hid (∀ i', i' < i → ¬ Bad (rg P r) i') ∧ Below w.heap.size w wr) (fun _ x _ => (rg P r).length - (intOf x).toNat)
      case atStart => exact ⟨0, by omega, rfl, rfl, Lib.hid (fun j h1 => by omega), hBr⟩
      case round =>
        obtain ⟨i, hi, rfl, rfl, hn2, hBi⟩ := hrel
        by_cases hir : i < (rg P r).length
        · obtain ⟨br, offr, rfl, hcr⟩ := HCR.out (fun h => by rw [h] at hir; simp at hir)
          have hm : ((i : Int) + ((rg P r).length : Int) - 1) % ((rg P r).length : Int) = ((pvi (rg P r).length i : Nat) : Int) := by
            unfold pvi
            rw [Int.natCast_emod, show ((i + (rg P r).length - 1 : Nat) : Int) = (i : Int) + ((rg P r).length : Int) - 1 by omega]
          have hp := pvi_lt hir
          obtain ⟨c0, c1, c2, c3, c4, c5, c6⟩ := (hcr _ hp).below hBi
          obtain ⟨d0, d1, d2, d3, d4, d5, d6⟩ := (hcr _ hir).below hBi
          have z1 := lt_of_cell c0
          have hst := Lib.hid (someTo_step hrP hir)
          have hbad : Hid (Bad (rg P r) i ↔ (turn (rg P r) i < 0 ∧ ((sd (rg P r) (pvi (rg P r).length i)).gable = true ∨ (sd (rg P r) i).gable = true ∨ (sd (rg P r) (pvi (rg P r).length i)).plate ≠ (sd (rg P r) i).plate))) := Lib.hid Iff.rfl
          clear hcr
          generalize sd (rg P r) (pvi (rg P r).length i) = A at *
          generalize sd (rg P r) i = B at *
          generalize pvi (rg P r).length i = k at *
          obtain ⟨o, ho⟩ : ∃ o, dec (SomeTo P r i) = o := ⟨_, rfl⟩
          have HO := Lib.hid ho
          rw [ho]
          clear ho
          go_upto_region 9 with fail
          go_cut [7, 8] (fun s7 s8 wx => ∃ b7 b8 : Nat, s7 = .pointer (some ⟨b7, 0, none⟩) ∧ s8 = .pointer (some ⟨b8, 0, none⟩) ∧ wx.cell? ⟨b7, 4, none⟩ = some (.bool A.gable) ∧ wx.cell? ⟨b7, 5, none⟩ = some (.int .i64 A.plate) ∧ wx.cell? ⟨b8, 4, none⟩ = some (.bool B.gable) ∧ wx.cell? ⟨b8, 5, none⟩ = some (.int .i64 B.plate) ∧ Below w.heap.size w wx)
          case first =>
            go_region
            all_goals (go_wp2_with fail; go_meet; exact ⟨_, _, rfl, rfl, by simp [go_sem], by simp [go_sem], by simp [go_sem], by simp [go_sem], (by repeat (first | (with_reducible first | exact Below.refl _ _ | refine Below.setCell ?_ ?_ _ | refine below_drewN ?_ _ | refine Below.drew ?_ | refine below_alloc ?_ _ | refine below_trans'' (by assumption) ?_) | exact Nat.le_refl _ | (focus (simp; done)) | (focus (simp; omega)) | omega))⟩)
          case rest =>
            obtain ⟨b7, b8, rfl, rfl, g1, g2, g3, g4, hBx⟩ := hcut
            have hTx := Lib.hid (hT.out _ hBx i hir)
            clear c0 c1 c2 c3 c4 c5 c6 d0 d1 d2 d3 d4 d5 d6 hm z1
            obtain ⟨t, ht⟩ : ∃ t, turn (rg P r) i = t := ⟨_, rfl⟩
            rw [ht] at hbad hTx
            clear ht
            generalize A.gable = ga at *
            generalize B.gable = gb at *
            generalize A.plate = pa at *
            generalize B.plate = pb at *
            by_cases ht : t < 0
            · have HT := Lib.hid ht
              cases ga
              · cases gb
                · by_cases hpp : pa = pb
                  · have e1 : (pa != pb) = false := by simp [hpp]
                    have HPP := Lib.hid hpp
                    clear hpp
                    have HNB : Hid (¬ Bad (rg P r) i) := Lib.hid (fun hb => by have hb2 := hbad.out.1 hb; obtain ⟨_, h1 | h1 | h1⟩ := hb2; cases h1; cases h1; exact h1 HPP.out)
                    cases o
                    · go_wp2_with fail
                      refine hTx.out.mono ?_
                      rintro e w2 ⟨rfl, n2, rfl⟩
                      go_wp2_with fail
                      go_roundw
                      case rel => exact ⟨i + 1, hir, by go_num, ret_bool (dec_true (hst.out.2 (.inr (by trivial)))).symm, Lib.hid (fun i' h' => by by_cases e : i' < i; exact hn2.out i' e; (have : i' = i := by omega); subst this; exact HNB.out), (by repeat (first | (with_reducible first | exact Below.refl _ _ | refine Below.setCell ?_ ?_ _ | refine below_drewN ?_ _ | refine Below.drew ?_ | refine below_alloc ?_ _ | refine below_trans'' (by assumption) ?_) | exact Nat.le_refl _ | (focus (simp; done)) | (focus (simp; omega)) | omega))⟩
                      case measure => simp [intOf]; omega
                    · go_wp2_with fail
                      refine hTx.out.mono ?_
                      rintro e w2 ⟨rfl, n2, rfl⟩
                      go_wp2_with fail
                      go_roundw
                      case rel => exact ⟨i + 1, hir, by go_num, ret_bool (dec_true (hst.out.2 (.inl (dec_iff.1 HO.out)))).symm, Lib.hid (fun i' h' => by by_cases e : i' < i; exact hn2.out i' e; (have : i' = i := by omega); subst this; exact HNB.out), (by repeat (first | (with_reducible first | exact Below.refl _ _ | refine Below.setCell ?_ ?_ _ | refine below_drewN ?_ _ | refine Below.drew ?_ | refine below_alloc ?_ _ | refine below_trans'' (by assumption) ?_) | exact Nat.le_refl _ | (focus (simp; done)) | (focus (simp; omega)) | omega))⟩
                      case measure => simp [intOf]; omega
                  · have e1 : (pa != pb) = true := by simp [hpp]
                    have HPP := Lib.hid hpp
                    clear hpp
                    go_wp2_with fail
                    refine hTx.out.mono ?_
                    rintro e w2 ⟨rfl, n2, rfl⟩
                    go_wp2_with fail
                    go_ret
                    exact ⟨congrArg Ending.returned (ret_bool (dec_false (fun hp => hp.1 r hrP i hir (hbad.out.2 ⟨HT.out, .inr (.inr HPP.out)⟩))).symm), (by repeat (first | (with_reducible first | exact Below.refl _ _ | refine Below.setCell ?_ ?_ _ | refine below_drewN ?_ _ | refine Below.drew ?_ | refine below_alloc ?_ _ | refine below_trans'' (by assumption) ?_) | exact Nat.le_refl _ | (focus (simp; done)) | (focus (simp; omega)) | omega))⟩
                · go_wp2_with fail
                  refine hTx.out.mono ?_
                  rintro e w2 ⟨rfl, n2, rfl⟩
                  go_wp2_with fail
                  go_ret
                  exact ⟨congrArg Ending.returned (ret_bool (dec_false (fun hp => hp.1 r hrP i hir (hbad.out.2 ⟨HT.out, .inr (.inl (by trivial))⟩))).symm), (by repeat (first | (with_reducible first | exact Below.refl _ _ | refine Below.setCell ?_ ?_ _ | refine below_drewN ?_ _ | refine Below.drew ?_ | refine below_alloc ?_ _ | refine below_trans'' (by assumption) ?_) | exact Nat.le_refl _ | (focus (simp; done)) | (focus (simp; omega)) | omega))⟩
              · go_wp2_with fail
                refine hTx.out.mono ?_
                rintro e w2 ⟨rfl, n2, rfl⟩
                go_wp2_with fail
                go_ret
                exact ⟨congrArg Ending.returned (ret_bool (dec_false (fun hp => hp.1 r hrP i hir (hbad.out.2 ⟨HT.out, .inl (by trivial)⟩))).symm), (by repeat (first | (with_reducible first | exact Below.refl _ _ | refine Below.setCell ?_ ?_ _ | refine below_drewN ?_ _ | refine Below.drew ?_ | refine below_alloc ?_ _ | refine below_trans'' (by assumption) ?_) | exact Nat.le_refl _ | (focus (simp; done)) | (focus (simp; omega)) | omega))⟩
            · have HT := Lib.hid ht
              have HNB : Hid (¬ Bad (rg P r) i) := Lib.hid (fun hb => by have hb2 := hbad.out.1 hb; exact HT.out hb2.1)
              cases o
              · cases gb
                · go_wp2_with fail
                  refine hTx.out.mono ?_
                  rintro e w2 ⟨rfl, n2, rfl⟩
                  go_wp2_with fail
                  go_roundw
                  case rel => exact ⟨i + 1, hir, by go_num, ret_bool (dec_true (hst.out.2 (.inr (by trivial)))).symm, Lib.hid (fun i' h' => by by_cases e : i' < i; exact hn2.out i' e; (have : i' = i := by omega); subst this; exact HNB.out), (by repeat (first | (with_reducible first | exact Below.refl _ _ | refine Below.setCell ?_ ?_ _ | refine below_drewN ?_ _ | refine Below.drew ?_ | refine below_alloc ?_ _ | refine below_trans'' (by assumption) ?_) | exact Nat.le_refl _ | (focus (simp; done)) | (focus (simp; omega)) | omega))⟩
                  case measure => simp [intOf]; omega
                · go_wp2_with fail
                  refine hTx.out.mono ?_
                  rintro e w2 ⟨rfl, n2, rfl⟩
                  go_wp2_with fail
                  go_roundw
                  case rel => exact ⟨i + 1, hir, by go_num, ret_bool (dec_false (fun hh => by rcases hst.out.1 hh with h1 | h1; (have := HO.out; rw [dec_true h1] at this; cases this); cases h1)).symm, Lib.hid (fun i' h' => by by_cases e : i' < i; exact hn2.out i' e; (have : i' = i := by omega); subst this; exact HNB.out), (by repeat (first | (with_reducible first | exact Below.refl _ _ | refine Below.setCell ?_ ?_ _ | refine below_drewN ?_ _ | refine Below.drew ?_ | refine below_alloc ?_ _ | refine below_trans'' (by assumption) ?_) | exact Nat.le_refl _ | (focus (simp; done)) | (focus (simp; omega)) | omega))⟩
                  case measure => simp [intOf]; omega
              · go_wp2_with fail
                refine hTx.out.mono ?_
                rintro e w2 ⟨rfl, n2, rfl⟩
                go_wp2_with fail
                go_roundw
                case rel => exact ⟨i + 1, hir, by go_num, ret_bool (dec_true (hst.out.2 (.inl (dec_iff.1 HO.out)))).symm, Lib.hid (fun i' h' => by by_cases e : i' < i; exact hn2.out i' e; (have : i' = i := by omega); subst this; exact HNB.out), (by repeat (first | (with_reducible first | exact Below.refl _ _ | refine Below.setCell ?_ ?_ _ | refine below_drewN ?_ _ | refine Below.drew ?_ | refine below_alloc ?_ _ | refine below_trans'' (by assumption) ?_) | exact Nat.le_refl _ | (focus (simp; done)) | (focus (simp; omega)) | omega))⟩
                case measure => simp [intOf]; omega
        · have e : i = (rg P r).length := by omega
          subst e
          go_wp2_with fail
          go_roundw
          case rel => exact ⟨r + 1, by omega, by go_num, ret_bool (dec_congr someTo_next.symm), Lib.hid (fun r' h' => by by_cases e : r' < r; exact hn1.out r' e; (have : r' = r := by omega); subst this; exact hn2.out), hBi⟩
          case measure => simp [intOf]; omega
    · have e : r = P.length := by omega
      subst e
      go_wp2_with fail
      go_ret
      exact ⟨congrArg Ending.returned (ret_bool (dec_congr ⟨fun hh => ⟨hn1.out, someTo_all.1 hh⟩, fun hh => someTo_all.2 hh.2⟩)), hBr⟩
end Go.Proofs.YtjpigaobeegbgaaGreatDoor
/- Walks: the plan's reference: Check. -/
namespace Go.Proofs.YtjpigaobeegbgaaGreatDoor
open Go.RowKit
/-- a plan in memory -/
def IsPlan (w : World) (v : Value) (P : List Ring) : Prop := ∃ u, v = .agg #[u] ∧ IsRings w u P
theorem IsPlan.below {w w' : World} {v : Value} {P : List Ring} (h : IsPlan w v P) (hB : Below w.heap.size w w') : IsPlan w' v P := by
  obtain ⟨u, rfl, h⟩ := h
  exact ⟨u, rfl, h.below hB⟩
/-- a code is returned: 0 just where p holds -/
def RetCode (p : Prop) (w : World) (e : Ending) (w' : World) : Prop := ∃ n : Int, e = .returned (.int .i64 n) ∧ (n = 0 ↔ p) ∧ Below w.heap.size w w'
theorem total_succ (P : List Ring) (k : Nat) : total P (k + 1) = total P k + (rg P k).length := rfl
theorem retCode_bad {p : Prop} {w w' : World} {n : Int} (h : ¬ p) (hn : n ≠ 0) (hB : Below w.heap.size w w') : RetCode p w (.returned (.int .i64 n)) w' := ⟨n, rfl, ⟨fun h0 => absurd h0 hn, fun hp => absurd hp h⟩, hB⟩
set_option maxRecDepth 100000 in
set_option maxHeartbeats 3200000 in
theorem rCheck_any (P : List Ring) (v : Value) (w : World) (hv : IsPlan w v P) (hP : P.length ≤ 40) (ht : total P P.length ≤ 40) :
    Calls Tryz.prog 32 #[v] w (RetCode (Valid P) w) := by
  obtain ⟨u, rfl, hu⟩ := hv
  have HU := Lib.hid (fun W (hW : Below w.heap.size w W) => hu.below hW)
  obtain ⟨a, cap, rfl, h⟩ := hu
  have HL := Lib.hid (fun r (hr : r < P.length) => (show (rg P r).length ≤ 1000 by have := len_le hr; omega))
  have hTL := Lib.hid (fun r (hr : r < P.length) => total_lt (P := P) hr)
  have HC := Lib.hid h
  have hP1 : P.length ≤ 1000 := by omega
  have HT := Lib.hid ht
  clear h ht
  by_cases hne : P = []
  · have HF := Lib.hid (fun hp : Valid P => hp.ne hne)
    subst hne
    go_enter Tryz.func32, Tryz.ntmps32
    go_wp2_with fail
    go_ret
    exact retCode_bad HF.out (by decide) (by repeat (first | (with_reducible first | exact Below.refl _ _ | refine Below.setCell ?_ ?_ _ | refine below_drewN ?_ _ | refine Below.drew ?_ | refine below_alloc ?_ _ | refine below_trans'' (by assumption) ?_) | exact Nat.le_refl _ | (focus (simp; done)) | (focus (simp; omega)) | omega))
  · obtain ⟨b, off, rfl, hc⟩ := HC.out hne
    have hP0 : 0 < P.length := List.length_pos_iff.2 hne
    have HNE := Lib.hid hne
    have HCC := Lib.hid hc
    have h0 : ((P.length : Int) == 0) = false := by simp; omega
    clear hne hc
    go_enter Tryz.func32, Tryz.ntmps32
    go_wp2_with fail
    go_loopw [3, 4] (fun s i wr => ∃ r : Nat, r ≤ P.length ∧ i = .int .i64 r ∧ s = .int .i64 (total P r : Nat) ∧ Hid (∀ r', r' < r → rg P r' ≠ []) ∧ wr = w.alloc (.cells #[.slice (some ⟨b, off, none⟩) P.length cap] 24)) (fun _ i _ => P.length - (intOf i).toNat)
    case atStart => exact ⟨0, by omega, rfl, rfl, Lib.hid (fun j h1 => by omega), rfl⟩
    case round =>
      obtain ⟨r, hr, rfl, rfl, hn1, rfl⟩ := hrel
      by_cases hrP : r < P.length
      · obtain ⟨ur, cr, hur⟩ := HCC.out r hrP
        obtain ⟨ar, capr, rfl, hcr⟩ := hur
        have cr' := keep (below_alloc (Below.refl _ _) (.cells #[.slice (some ⟨b, off, none⟩) P.length cap] 24)) cr
        have zr := lt_of_cell cr
        have hlr := HL.out r hrP
        have htr := hTL.out r hrP
        have htt := HT.out
        clear hcr cr
        by_cases h1 : (rg P r).length = 0
        · have HF := Lib.hid (fun hp : Valid P => hp.nes r hrP (List.length_eq_zero_iff.1 h1))
          have h1' : (((rg P r).length : Int) == 0) = true := by simp; exact List.length_eq_zero_iff.1 h1
          clear h1
          generalize (rg P r).length = n at *
          go_wp2_with fail
          go_ret
          exact retCode_bad HF.out (by decide) (by repeat (first | (with_reducible first | exact Below.refl _ _ | refine Below.setCell ?_ ?_ _ | refine below_drewN ?_ _ | refine Below.drew ?_ | refine below_alloc ?_ _ | refine below_trans'' (by assumption) ?_) | exact Nat.le_refl _ | (focus (simp; done)) | (focus (simp; omega)) | omega))
        · have h1' : (((rg P r).length : Int) == 0) = false := by simp; exact fun h => h1 (by rw [h]; rfl)
          have hnn : Hid (rg P r ≠ []) := Lib.hid (fun h => h1 (by rw [h]; rfl))
          have hts := Lib.hid (total_succ P r)
          clear h1
          generalize (rg P r).length = n at *
          go_wp2_with fail
          go_roundw
          case rel => exact ⟨r + 1, by omega, by go_num, ret_i64 (by rw [hts.out]; omega), Lib.hid (fun r' h' => by by_cases e : r' < r; exact hn1.out r' e; (have : r' = r := by omega); subst this; exact hnn.out), by trivial⟩
          case measure => simp [intOf]; omega
      · have e : r = P.length := by omega
        subst e
        by_cases h24 : (24 : Int) < (total P P.length : Nat)
        · have HF := Lib.hid (fun hp : Valid P => by have := hp.tot; omega : ¬ Valid P)
          go_wp2_with fail
          go_ret
          exact retCode_bad HF.out (by decide) (by repeat (first | (with_reducible first | exact Below.refl _ _ | refine Below.setCell ?_ ?_ _ | refine below_drewN ?_ _ | refine Below.drew ?_ | refine below_alloc ?_ _ | refine below_trans'' (by assumption) ?_) | exact Nat.le_refl _ | (focus (simp; done)) | (focus (simp; omega)) | omega))
        · have H24 := Lib.hid h24
          go_wp2_with fail
          go_loopw [5] (fun i wr => ∃ r : Nat, r ≤ P.length ∧ i = .int .i64 r ∧ Hid (∀ r', r' < r → RRing (rg P r')) ∧ Below w.heap.size w wr ∧ wr.cell? ⟨w.heap.size, 0, none⟩ = some (.slice (some ⟨b, off, none⟩) P.length cap)) (fun i _ => P.length - (intOf i).toNat)
          case atStart => exact ⟨0, by omega, rfl, Lib.hid (fun j h1 => by omega), (by repeat (first | (with_reducible first | exact Below.refl _ _ | refine Below.setCell ?_ ?_ _ | refine below_drewN ?_ _ | refine Below.drew ?_ | refine below_alloc ?_ _ | refine below_trans'' (by assumption) ?_) | exact Nat.le_refl _ | (focus (simp; done)) | (focus (simp; omega)) | omega)), by simp [go_sem]⟩
          case round =>
            obtain ⟨r, hr, rfl, hn2, hB2, k2⟩ := hrel
            by_cases hrP : r < P.length
            · obtain ⟨ur, cr, hur⟩ := HCC.out r hrP
              obtain ⟨ar, capr, rfl, hcr⟩ := hur
              have cr' := keep hB2 cr
              have hlr := HL.out r hrP
              have HCR := Lib.hid hcr
              clear hcr
              go_wp2_with fail
              go_loopw [6] (fun i wr => ∃ k : Nat, k ≤ (rg P r).length ∧ i = .int .i64 k ∧ Hid (∀ k', k' < k → RSide (sd (rg P r) k')) ∧ Below w.heap.size w wr ∧ wr.cell? ⟨w.heap.size, 0, none⟩ = some (.slice (some ⟨b, off, none⟩) P.length cap)) (fun i _ => (rg P r).length - (intOf i).toNat)
              case atStart => exact ⟨0, by omega, rfl, Lib.hid (fun j h1 => by omega), hB2, k2⟩
              case round =>
                obtain ⟨k, hk, rfl, hn3, hB3, k3⟩ := hrel
                have cr3 := keep hB3 cr
                by_cases hkr : k < (rg P r).length
                · obtain ⟨br, offr, rfl, hcr⟩ := HCR.out (fun h => by rw [h] at hkr; simp at hkr)
                  obtain ⟨d0, d1, d2, d3, d4, d5, d6⟩ := (hcr k hkr).below hB3
                  have hRG := Lib.hid (fun W => rranged_any (sd (rg P r) k) W)
                  have HVB := Lib.hid (fun (hp : Valid P) => hp.ran r hrP k hkr)
                  clear hcr
                  by_cases hrs : RSide (sd (rg P r) k)
                  · have hd := dec_true hrs
                    have HRS := Lib.hid hrs
                    clear hrs
                    go_wp2_with fail
                    refine (hRG.out _).mono ?_
                    rw [hd]
                    rintro e w1 ⟨rfl, hB4⟩
                    have k4 := keep hB4 k3
                    have hB5 : Below w.heap.size w w1 := (by repeat (first | (with_reducible first | exact Below.refl _ _ | refine Below.setCell ?_ ?_ _ | refine below_drewN ?_ _ | refine Below.drew ?_ | refine below_alloc ?_ _ | refine below_trans'' (by assumption) ?_) | exact Nat.le_refl _ | (focus (simp; done)) | (focus (simp; omega)) | omega))
                    clear hB4 k3 d0 d1 d2 d3 d4 d5 d6 cr3
                    go_wp2_with fail
                    go_roundw
                    case rel => exact ⟨k + 1, hkr, by go_num, Lib.hid (fun k' h' => by by_cases e : k' < k; exact hn3.out k' e; (have : k' = k := by omega); subst this; exact HRS.out), hB5, k4⟩
                    case measure => simp [intOf]; omega
                  · have hd := dec_false hrs
                    have HRS := Lib.hid hrs
                    clear hrs
                    go_wp2_with fail
                    refine (hRG.out _).mono ?_
                    rw [hd]
                    rintro e w1 ⟨rfl, hB4⟩
                    go_wp2_with fail
                    go_ret
                    exact retCode_bad (fun hp => HRS.out (HVB.out hp)) (by decide) (by repeat (first | (with_reducible first | exact Below.refl _ _ | refine Below.setCell ?_ ?_ _ | refine below_drewN ?_ _ | refine Below.drew ?_ | refine below_alloc ?_ _ | refine below_trans'' (by assumption) ?_) | exact Nat.le_refl _ | (focus (simp; done)) | (focus (simp; omega)) | omega))
                · have e : k = (rg P r).length := by omega
                  subst e
                  go_wp2_with fail
                  go_roundw
                  case rel => exact ⟨r + 1, by omega, by go_num, Lib.hid (fun r' h' => by by_cases e : r' < r; exact hn2.out r' e; (have : r' = r := by omega); subst this; exact hn3.out), hB3, k3⟩
                  case measure => simp [intOf]; omega
            · have e : r = P.length := by omega
              subst e
              clear hr hrP
              have HTW := Lib.hid (fun r u (hr : r < P.length) W (hu : IsRing W u (rg P r)) => shaped_any (rg P r) u W hu (HL.out r hr) (hn2.out r hr))
              go_wp2_with fail
              go_loopw [7] (fun i wr => ∃ r : Nat, r ≤ P.length ∧ i = .int .i64 r ∧ Hid (∀ r', r' < r → Shaped (rg P r')) ∧ Below w.heap.size w wr ∧ wr.cell? ⟨w.heap.size, 0, none⟩ = some (.slice (some ⟨b, off, none⟩) P.length cap)) (fun i _ => P.length - (intOf i).toNat)
              case atStart => exact ⟨0, by omega, rfl, Lib.hid (fun j h1 => by omega), hB2, k2⟩
              case round =>
                obtain ⟨r, hr, rfl, hn4, hB4, k4⟩ := hrel
                by_cases hrP : r < P.length
                · obtain ⟨ur, cr, hur⟩ := HCC.out r hrP
                  have hS := Lib.hid (HTW.out r ur hrP _ (hur.below hB4))
                  obtain ⟨ar, capr, rfl, hcr⟩ := hur
                  have cr' := keep hB4 cr
                  clear hcr cr
                  by_cases hsh : Shaped (rg P r)
                  · have hd := dec_true hsh
                    have HSH := Lib.hid hsh
                    clear hsh
                    go_wp2_with fail
                    refine hS.out.mono ?_
                    rw [hd]
                    rintro e w1 ⟨rfl, n1, rfl⟩
                    go_wp2_with fail
                    go_roundw
                    case rel => exact ⟨r + 1, hrP, by go_num, Lib.hid (fun r' h' => by by_cases e : r' < r; exact hn4.out r' e; (have : r' = r := by omega); subst this; exact HSH.out), (by repeat (first | (with_reducible first | exact Below.refl _ _ | refine Below.setCell ?_ ?_ _ | refine below_drewN ?_ _ | refine Below.drew ?_ | refine below_alloc ?_ _ | refine below_trans'' (by assumption) ?_) | exact Nat.le_refl _ | (focus (simp; done)) | (focus (simp; omega)) | omega)), k4⟩
                    case measure => simp [intOf]; omega
                  · have hd := dec_false hsh
                    have HSH := Lib.hid (fun hp : Valid P => hsh (hp.shp r hrP))
                    clear hsh
                    go_wp2_with fail
                    refine hS.out.mono ?_
                    rw [hd]
                    rintro e w1 ⟨rfl, n1, rfl⟩
                    go_wp2_with fail
                    go_ret
                    exact retCode_bad HSH.out (by decide) (by repeat (first | (with_reducible first | exact Below.refl _ _ | refine Below.setCell ?_ ?_ _ | refine below_drewN ?_ _ | refine Below.drew ?_ | refine below_alloc ?_ _ | refine below_trans'' (by assumption) ?_) | exact Nat.le_refl _ | (focus (simp; done)) | (focus (simp; omega)) | omega))
                · have e : r = P.length := by omega
                  subst e
                  clear hr hrP
                  have hX := Lib.hid (crossed_any P _ _ (HU.out _ hB4) hP1 HL.out)
                  by_cases hcr : Crossed P
                  · have hd := dec_true hcr
                    have HCR := Lib.hid (fun hp : Valid P => hp.crs hcr)
                    clear hcr
                    go_wp2_with fail
                    refine hX.out.mono ?_
                    rw [hd]
                    rintro e w1 ⟨rfl, n1, rfl⟩
                    go_wp2_with fail
                    go_ret
                    exact retCode_bad HCR.out (by decide) (by repeat (first | (with_reducible first | exact Below.refl _ _ | refine Below.setCell ?_ ?_ _ | refine below_drewN ?_ _ | refine Below.drew ?_ | refine below_alloc ?_ _ | refine below_trans'' (by assumption) ?_) | exact Nat.le_refl _ | (focus (simp; done)) | (focus (simp; omega)) | omega))
                  · have hd := dec_false hcr
                    have HCR := Lib.hid hcr
                    clear hcr
                    have hY := Lib.hid (fun W hW => placed_any P _ W (HU.out W hW) hP1 HL.out HNE.out hn1.out hn2.out)
                    have hZ := Lib.hid (fun W hW => reflex_any P _ W (HU.out W hW) hP1 HL.out hn2.out)
                    go_wp2_with fail
                    refine hX.out.mono ?_
                    rw [hd]
                    rintro e w1 ⟨rfl, n1, rfl⟩
                    by_cases hpl : Placed P
                    · have hdp := dec_true hpl
                      have HPL := Lib.hid hpl
                      clear hpl
                      by_cases hrf : Reflex P
                      · have hdr := dec_true hrf
                        have HRF := Lib.hid hrf
                        clear hrf
                        go_wp2_with fail
                        refine (hY.out _ (by repeat (first | (with_reducible first | exact Below.refl _ _ | refine Below.setCell ?_ ?_ _ | refine below_drewN ?_ _ | refine Below.drew ?_ | refine below_alloc ?_ _ | refine below_trans'' (by assumption) ?_) | exact Nat.le_refl _ | (focus (simp; done)) | (focus (simp; omega)) | omega))).mono ?_
                        rw [hdp]
                        rintro e w1 ⟨rfl, n2, rfl⟩
                        go_wp2_with fail
                        refine (hZ.out _ (by repeat (first | (with_reducible first | exact Below.refl _ _ | refine Below.setCell ?_ ?_ _ | refine below_drewN ?_ _ | refine Below.drew ?_ | refine below_alloc ?_ _ | refine below_trans'' (by assumption) ?_) | exact Nat.le_refl _ | (focus (simp; done)) | (focus (simp; omega)) | omega))).mono ?_
                        rw [hdr]
                        rintro e w1 ⟨rfl, hB6⟩
                        go_wp2_with fail
                        go_ret
                        exact ⟨0, rfl, ⟨fun _ => ⟨HNE.out, hn1.out, by have := H24.out; omega, hn2.out, hn4.out, HCR.out, HPL.out, HRF.out⟩, fun _ => rfl⟩, (by repeat (first | (with_reducible first | exact Below.refl _ _ | refine Below.setCell ?_ ?_ _ | refine below_drewN ?_ _ | refine Below.drew ?_ | refine below_alloc ?_ _ | refine below_trans'' (by assumption) ?_) | exact Nat.le_refl _ | (focus (simp; done)) | (focus (simp; omega)) | omega))⟩
                      · have hdr := dec_false hrf
                        have HRF := Lib.hid (fun hp : Valid P => hrf hp.rfx)
                        clear hrf
                        go_wp2_with fail
                        refine (hY.out _ (by repeat (first | (with_reducible first | exact Below.refl _ _ | refine Below.setCell ?_ ?_ _ | refine below_drewN ?_ _ | refine Below.drew ?_ | refine below_alloc ?_ _ | refine below_trans'' (by assumption) ?_) | exact Nat.le_refl _ | (focus (simp; done)) | (focus (simp; omega)) | omega))).mono ?_
                        rw [hdp]
                        rintro e w1 ⟨rfl, n2, rfl⟩
                        go_wp2_with fail
                        refine (hZ.out _ (by repeat (first | (with_reducible first | exact Below.refl _ _ | refine Below.setCell ?_ ?_ _ | refine below_drewN ?_ _ | refine Below.drew ?_ | refine below_alloc ?_ _ | refine below_trans'' (by assumption) ?_) | exact Nat.le_refl _ | (focus (simp; done)) | (focus (simp; omega)) | omega))).mono ?_
                        rw [hdr]
                        rintro e w1 ⟨rfl, hB6⟩
                        go_wp2_with fail
                        go_ret
                        exact retCode_bad HRF.out (by decide) (by repeat (first | (with_reducible first | exact Below.refl _ _ | refine Below.setCell ?_ ?_ _ | refine below_drewN ?_ _ | refine Below.drew ?_ | refine below_alloc ?_ _ | refine below_trans'' (by assumption) ?_) | exact Nat.le_refl _ | (focus (simp; done)) | (focus (simp; omega)) | omega))
                    · have hdp := dec_false hpl
                      have HPL := Lib.hid (fun hp : Valid P => hpl hp.plc)
                      clear hpl
                      go_wp2_with fail
                      refine (hY.out _ (by repeat (first | (with_reducible first | exact Below.refl _ _ | refine Below.setCell ?_ ?_ _ | refine below_drewN ?_ _ | refine Below.drew ?_ | refine below_alloc ?_ _ | refine below_trans'' (by assumption) ?_) | exact Nat.le_refl _ | (focus (simp; done)) | (focus (simp; omega)) | omega))).mono ?_
                      rw [hdp]
                      rintro e w1 ⟨rfl, n2, rfl⟩
                      go_wp2_with fail
                      go_ret
                      exact retCode_bad HPL.out (by decide) (by repeat (first | (with_reducible first | exact Below.refl _ _ | refine Below.setCell ?_ ?_ _ | refine below_drewN ?_ _ | refine Below.drew ?_ | refine below_alloc ?_ _ | refine below_trans'' (by assumption) ?_) | exact Nat.le_refl _ | (focus (simp; done)) | (focus (simp; omega)) | omega))
end Go.Proofs.YtjpigaobeegbgaaGreatDoor
