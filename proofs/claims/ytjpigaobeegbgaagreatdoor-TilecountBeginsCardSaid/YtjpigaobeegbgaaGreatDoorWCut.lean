/- Walks: rational.digits, cut at valid numbers. -/
import Derived.Test.YtjpigaobeegbgaaGreatDoorWDiv
import Derived.Test.YtjpigaobeegbgaaGreatDoorCutTxt
namespace Go.Proofs.YtjpigaobeegbgaaGreatDoor
open Go.RowKit
set_option maxHeartbeats 400000 in
theorem digits_any (s : ByteArray) (w : World) (hs : s.size ≤ maxLen) :
    Calls Tryz.prog 171 #[.string s] w (RetQ (.int .i64 (digs s.data.toList : Nat)) w) := by
  unfold maxLen at hs
  go_enter Tryz.func171, Tryz.ntmps171
  go_upto_block 0 with fail
  go_cut [3] (fun i wr => i = .int .i64 (nDig s.data.toList : Nat) ∧ wr = w)
  case first =>
    go_wp2_with fail
    go_loopw [3] (fun i wr => ∃ k : Nat, k ≤ nDig s.data.toList ∧ i = .int .i64 k ∧ wr = w) (fun i _ => s.size - (intOf i).toNat)
    case atStart => exact ⟨0, Nat.zero_le _, rfl, rfl⟩
    case round =>
      obtain ⟨k, hk, rfl, rfl⟩ := hrel
      have hkn := nDig_le s.data.toList
      have hln : s.data.toList.length = s.size := rfl
      by_cases hlt : k < nDig s.data.toList
      · have hks : k < s.size := by omega
        obtain ⟨hd1, hd2⟩ := (isDig_iff _).1 (isDig_of_lt s.data.toList k hlt hks)
        have hd1' : (48 : Int) ≤ (s[k].toNat : Int) := by exact_mod_cast hd1
        have hd2' : (s[k].toNat : Int) ≤ 57 := by exact_mod_cast hd2
        clear hd1 hd2 hln
        go_wp2
        go_roundw
        case rel => exact ⟨k + 1, hlt, by go_num, by trivial⟩
        case measure => simp [intOf]; omega
      · have hK : k = nDig s.data.toList := by omega
        subst hK
        by_cases hks : nDig s.data.toList < s.size
        · have hd := not_isDig_at s.data.toList hks
          by_cases hd1 : (48 : Int) ≤ (s[nDig s.data.toList].toNat : Int)
          · have hd2 : ¬ (s[nDig s.data.toList].toNat : Int) ≤ 57 := fun h => by
              have : isDig s.data.toList[nDig s.data.toList] = true := (isDig_iff _).2 ⟨by exact_mod_cast hd1, by exact_mod_cast h⟩
              rw [this] at hd; cases hd
            clear hd hln
            go_wp2
            go_meet
            exact ⟨rfl, rfl⟩
          · clear hd hln
            go_wp2
            go_meet
            exact ⟨rfl, rfl⟩
        · clear hln
          go_wp2
          go_meet
          exact ⟨rfl, rfl⟩
  case rest =>
    obtain ⟨rfl, rfl⟩ := hcut
    have hkn : nDig s.data.toList ≤ s.size := nDig_le s.data.toList
    by_cases h1 : 1 < nDig s.data.toList
    · have h1' : (1 : Int) < (nDig s.data.toList : Nat) := by omega
      have hs0 : 0 < s.size := by omega
      by_cases hz : ((s[0].toNat : Int) == 48) = true
      · have HD : Hid (digs s.data.toList = 0) := Lib.hid (if_pos ⟨h1, headq hs0 hz⟩)
        go_wp2
        go_ret
        exact ⟨by rw [HD.out]; rfl, 0, rfl⟩
      · have hz' : ((s[0].toNat : Int) == 48) = false := by simpa using hz
        have HD : Hid (digs s.data.toList = nDig s.data.toList) := Lib.hid (if_neg fun h => hz (headq' hs0 h.2))
        go_wp2
        go_ret
        exact ⟨by rw [HD.out]; rfl, 0, rfl⟩
    · have HD : Hid (digs s.data.toList = nDig s.data.toList) := Lib.hid (if_neg fun h => h1 h.1)
      have h1' : ¬ (1 : Int) < (nDig s.data.toList : Nat) := by omega
      go_wp2
      go_ret
      exact ⟨by rw [HD.out]; rfl, 0, rfl⟩
end Go.Proofs.YtjpigaobeegbgaaGreatDoor
