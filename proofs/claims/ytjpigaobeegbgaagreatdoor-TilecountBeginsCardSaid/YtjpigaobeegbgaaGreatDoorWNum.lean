/- Walks: native.number. -/
import Derived.Test.YtjpigaobeegbgaaGreatDoorWNatOf
import Derived.Test.YtjpigaobeegbgaaGreatDoorRatTxt
namespace Go.Proofs.YtjpigaobeegbgaaGreatDoor
open Go.RowKit
theorem gcd_int (a b : Int) (w : World) (ha0 : 0 ≤ a) (hb0 : 0 ≤ b) (ha : a ≤ 4000000000000000000) (hb : b ≤ 4000000000000000000) :
    Calls Tryz.prog 117 #[.int .i64 a, .int .i64 b] w (RetQ (.int .i64 (Int.gcd a b : Nat)) w) := by
  have := gcd_any a.toNat b.toNat w (by omega) (by omega)
  rw [Int.toNat_of_nonneg ha0, Int.toNat_of_nonneg hb0] at this
  have e : Int.gcd a b = Nat.gcd a.toNat b.toNat := by rw [Int.gcd]; congr 1 <;> omega
  rw [e]; exact this
theorem bounds_of_mul {n a : Int} {g : Nat} (h : n = a * g) (g0 : 0 < g) (h1 : -4000000000000000000 ≤ n) (h2 : n ≤ 4000000000000000000) : -4000000000000000000 ≤ a ∧ a ≤ 4000000000000000000 := by
  have hz : (1 : Int) ≤ g := by omega
  constructor
  · by_cases ha : 0 ≤ a
    · omega
    · have := Int.mul_le_mul_of_nonpos_left (a := a) (show a ≤ 0 by omega) hz; omega
  · by_cases ha : 0 ≤ a
    · have := Int.mul_le_mul_of_nonneg_left hz ha; omega
    · omega
set_option maxRecDepth 100000 in
set_option maxHeartbeats 800000 in
theorem number_any (n d : Int) (w : World) (hG : Glo w) (hd : d ≠ 0) (h1 : -4000000000000000000 ≤ n) (h2 : n ≤ 4000000000000000000) (h3 : -4000000000000000000 ≤ d) (h4 : d ≤ 4000000000000000000) :
    Calls Tryz.prog 99 #[.agg #[.int .i64 n, .int .i64 d]] w (RetS (ratText (Rat.divInt n d)) w) := by
  go_enter Tryz.func99, Tryz.ntmps99
  go_upto_region 0 with fail
  go_cut [1, 2] (fun p s2 wr => p = .pointer (some ⟨w.heap.size, 0, none⟩) ∧ s2 = .string .empty ∧ wr = w.alloc (.cells #[.int .i64 n, .int .i64 d] 100))
  case first =>
    go_wp2_with fail
    go_meet
    exact ⟨rfl, rfl, rfl⟩
  case rest =>
    obtain ⟨rfl, rfl, rfl⟩ := hcut
    go_step
    go_step
    go_cut [6] (fun _ wr => ∃ n' d' : Int, 0 < d' ∧ Rat.divInt n' d' = Rat.divInt n d ∧ -4000000000000000000 ≤ n' ∧ n' ≤ 4000000000000000000 ∧ d' ≤ 4000000000000000000 ∧ wr = w.alloc (.cells #[.int .i64 n', .int .i64 d'] 100))
    case first =>
      by_cases h : d < 0
      · go_wp2_with fail
        go_meet
        exact ⟨-n, -d, by omega, Rat.neg_divInt_neg _ _, by omega, by omega, by omega, by trivial⟩
      · go_wp2_with fail
        go_meet
        exact ⟨n, d, by omega, rfl, by omega, by omega, by omega, by trivial⟩
    case rest =>
      obtain ⟨n', d', p1, p2, p3, p4, p5, rfl⟩ := hcut
      obtain ⟨a, b, g, hg, g0, ha, hb, b0, hnum, hden, q1, q2⟩ := divInt_parts n' d' p1
      have HG := Lib.hid hG
      have hab1 : -4000000000000000000 ≤ a ∧ a ≤ 4000000000000000000 := bounds_of_mul ha g0 p3 p4
      have hab2 : -4000000000000000000 ≤ b ∧ b ≤ 4000000000000000000 := bounds_of_mul hb g0 (by omega) p5
      have hgz : ¬ (g : Int) = 0 := by omega
      have hw1 : IntKind.i64.wrap a = a := IntWalk.i64_in _ (by omega)
      have hw2 : IntKind.i64.wrap b = b := IntWalk.i64_in _ (by omega)
      have HN : Hid ((Rat.divInt n d).num = a) := Lib.hid (by rw [← p2]; exact hnum)
      have HD : Hid (((Rat.divInt n d).den : Int) = b) := Lib.hid (by rw [← p2]; exact hden)
      have HGG := Lib.hid hg
      obtain ⟨a1, a2⟩ := hab1
      obtain ⟨b1, b2⟩ := hab2
      clear p2 hd h1 h2 h3 h4 hnum hden ha hb hg hG
      go_wp2_with (go_at_call 117; refine (gcd_int _ _ _ (by omega) (by omega) (by omega) (by omega)).mono ?_; rintro e w' ⟨rfl, nq, rfl⟩; rw [← HGG.out])
      go_quiet (fail)
      by_cases h1 : b = 1
      · have hbb : ((b : Int) == 1) = true := by simp [h1]
        have HT : Hid (ratText (Rat.divInt n d) = Lib.itoa a) := Lib.hid (by
          have h2 := HD.out
          rw [ratText, if_pos (by omega), HN.out])
        clear h1
        go_wp2_with (go_at_call 43; refine (itoa_any _ (by omega) (by omega) _ (HG.out.below (by repeat (first | (with_reducible first | exact Below.refl _ _ | refine Below.setCell ?_ ?_ _ | refine below_drewN ?_ _ | refine Below.drew ?_ | refine below_alloc ?_ _ | refine below_trans'' (by assumption) ?_) | exact Nat.le_refl _ | (focus (simp; done)) | (focus (simp; omega)) | omega)))).mono ?_; rintro e w2 ⟨s, hs, rfl, hB⟩)
        go_ret
        exact ⟨s, hs.trans HT.out.symm, rfl, Below.trans (by repeat (first | (with_reducible first | exact Below.refl _ _ | refine Below.setCell ?_ ?_ _ | refine below_drewN ?_ _ | refine Below.drew ?_ | refine below_alloc ?_ _ | refine below_trans'' (by assumption) ?_) | exact Nat.le_refl _ | (focus (simp; done)) | (focus (simp; omega)) | omega)) (hB.mono (by simp))⟩
      · have hbb : ((b : Int) == 1) = false := by simp [h1]
        have HT : Hid (ratText (Rat.divInt n d) = Lib.itoa a ++ 47 :: Lib.itoa b) := Lib.hid (by
          have h2 := HD.out
          rw [ratText, if_neg (by omega), HN.out, ← h2, Lib.itoa_nonneg])
        clear h1
        go_wp2_with fail
        refine (itoa_any a (by omega) (by omega) _ (HG.out.below (by repeat (first | (with_reducible first | exact Below.refl _ _ | refine Below.setCell ?_ ?_ _ | refine below_drewN ?_ _ | refine Below.drew ?_ | refine below_alloc ?_ _ | refine below_trans'' (by assumption) ?_) | exact Nat.le_refl _ | (focus (simp; done)) | (focus (simp; omega)) | omega)))).mono ?_
        rintro e w2 ⟨s, hs, rfl, hB⟩
        have hsz : s.size ≤ 21 := by have := Lib.itoa_length_le a (by omega) (by omega); rw [← hs] at this; exact this
        have HS := Lib.hid hs
        have hG2 : Glo w2 := (HG.out.below (by repeat (first | (with_reducible first | exact Below.refl _ _ | refine Below.setCell ?_ ?_ _ | refine below_drewN ?_ _ | refine Below.drew ?_ | refine below_alloc ?_ _ | refine below_trans'' (by assumption) ?_) | exact Nat.le_refl _ | (focus (simp; done)) | (focus (simp; omega)) | omega))).below hB
        have HG2 := Lib.hid hG2
        clear hs hG2
        go_wp2_with fail
        refine (itoa_any b (by omega) (by omega) _ HG2.out).mono ?_
        rintro e w3 ⟨s', hs', rfl, hB'⟩
        have hsz' : s'.size ≤ 21 := by have := Lib.itoa_length_le b (by omega) (by omega); rw [← hs'] at this; exact this
        have HS' := Lib.hid hs'
        clear hs'
        go_wp2_with fail
        go_ret
        refine ⟨_, ?_, rfl, Below.trans (Below.trans (by repeat (first | (with_reducible first | exact Below.refl _ _ | refine Below.setCell ?_ ?_ _ | refine below_drewN ?_ _ | refine Below.drew ?_ | refine below_alloc ?_ _ | refine below_trans'' (by assumption) ?_) | exact Nat.le_refl _ | (focus (simp; done)) | (focus (simp; omega)) | omega)) (hB.mono (by simp))) (hB'.mono (by have := hB.size; simp at this; omega))⟩
        rw [HT.out, ← HS.out, ← HS'.out]
        simp
end Go.Proofs.YtjpigaobeegbgaaGreatDoor
