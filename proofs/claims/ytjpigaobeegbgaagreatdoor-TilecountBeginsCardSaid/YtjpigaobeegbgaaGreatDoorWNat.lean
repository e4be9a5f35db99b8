/- Walks of rational's native functions. -/
import Derived.Test.YtjpigaobeegbgaaGreatDoorBase
namespace Go.Proofs.YtjpigaobeegbgaaGreatDoor
open Go.RowKit
set_option maxHeartbeats 400000 in
theorem gcd_any (a b : Nat) (w : World) (ha : a ≤ 4000000000000000000) (hb : b ≤ 4000000000000000000) :
    Calls Tryz.prog 117 #[.int .i64 a, .int .i64 b] w fun e w' => e = .returned (.int .i64 (Nat.gcd a b : Nat)) ∧ ∃ n, w' = w.drewN n := by
  go_enter Tryz.func117, Tryz.ntmps117
  go_wp2
  go_loopw [0, 1] (fun x y wr => ∃ m n : Nat, x = .int .i64 m ∧ y = .int .i64 n ∧ m ≤ 4000000000000000000 ∧ n ≤ 4000000000000000000 ∧ Nat.gcd m n = Nat.gcd a b ∧ ∃ q, wr = w.drewN q) (fun _ y _ => (intOf y).toNat)
  case atStart => exact ⟨a, b, rfl, rfl, ha, hb, rfl, 0, rfl⟩
  case round =>
    obtain ⟨m, n, rfl, rfl, hm, hn, hg, q, rfl⟩ := hrel
    have HG := Lib.hid hg; clear hg
    by_cases h0 : n = 0
    · subst h0
      go_wp2
      go_ret
      have := HG.out
      rw [Nat.gcd_zero_right] at this
      subst this
      exact ⟨rfl, q, rfl⟩
    · have hne : ((n : Int) != 0) = true := by simp [h0]
      have hlt : m % n < n := Nat.mod_lt _ (by omega)
      go_wp2
      go_quiet (fail)
      go_wp2
      go_roundw
      case rel => exact ⟨n, m % n, rfl, by go_num, hn, by omega, by rw [← HG.out, Nat.gcd_comm m n, Nat.gcd_comm n (m % n)]; exact (Nat.gcd_rec n m).symm, _, drewN_add _ _ _⟩
      case measure => simp [intOf]; omega
def natIntV (l : List UInt8) : Value := match natInt l with | none => .tuple #[.int .i64 0, .string .empty, .bool false] | some (n, r) => .tuple #[.int .i64 n, .string ⟨r.toArray⟩, .bool true]
theorem natIntV_none {l : List UInt8} (h : nDig l = 0 ∨ 8 < nDig l ∨ (1 < nDig l ∧ l.head? = some 48)) : natIntV l = .tuple #[.int .i64 0, .string .empty, .bool false] := by
  simp only [natIntV, natInt, if_pos h]
theorem natIntV_some {l : List UInt8} (h : ¬ (nDig l = 0 ∨ 8 < nDig l ∨ (1 < nDig l ∧ l.head? = some 48))) : natIntV l = .tuple #[.int .i64 (dval (l.take (nDig l)) : Nat), .string ⟨(l.drop (nDig l)).toArray⟩, .bool true] := by
  simp only [natIntV, natInt, if_neg h]
set_option maxHeartbeats 800000 in
theorem nativeInt_any (s : ByteArray) (w : World) (hs : s.size ≤ maxLen) :
    Calls Tryz.prog 116 #[.string s] w (RetQ (natIntV s.data.toList) w) := by
  unfold maxLen at hs
  go_enter Tryz.func116, Tryz.ntmps116
  go_upto_block 0 with fail
  go_cut [5, 6] (fun n i wr => ∃ k : Nat, k ≤ s.size ∧ k = min (nDig s.data.toList) 9 ∧ i = .int .i64 k ∧ n = .int .i64 (dval (s.data.toList.take k) : Nat) ∧ wr = w)
  case first =>
    go_wp2_with fail
    go_loopw [5, 6] (fun n i wr => ∃ k : Nat, k ≤ s.size ∧ k ≤ nDig s.data.toList ∧ k ≤ 9 ∧ i = .int .i64 k ∧ n = .int .i64 (dval (s.data.toList.take k) : Nat) ∧ wr = w) (fun _ i _ => s.size - (intOf i).toNat)
    case atStart => exact ⟨0, Nat.zero_le _, Nat.zero_le _, by omega, rfl, rfl, rfl⟩
    case round =>
      obtain ⟨k, hk, hkd, hk9, rfl, rfl, rfl⟩ := hrel
      by_cases hlt : k < nDig s.data.toList ∧ k < 9
      · have hks : k < s.size := Nat.lt_of_lt_of_le hlt.1 (nDig_le _)
        have hk8 : (k : Int) ≤ 8 := by omega
        obtain ⟨hd1, hd2⟩ := (isDig_iff _).1 (isDig_of_lt s.data.toList k hlt.1 hks)
        have hd1' : (48 : Int) ≤ (s[k].toNat : Int) := by exact_mod_cast hd1
        have hd2' : (s[k].toNat : Int) ≤ 57 := by exact_mod_cast hd2
        have hv := dval_take_lt s.data.toList k (by omega)
        have hvs := dval_snoc (s.data.toList.take k) s[k]
        have hv9 : 10 ^ k ≤ 10 ^ 8 := Nat.pow_le_pow_right (by omega) (by omega)
        have hv8 : (dval (s.data.toList.take k) : Int) ≤ 100000000 := by omega
        have HV := Lib.hid hvs
        have hlt' := hlt.1
        clear hvs hv hv9 hlt hd1 hd2
        go_wp2
        go_roundw
        case rel => exact ⟨k + 1, hks, hlt', by omega, by go_num, ret_i64 (by rw [List.take_succ_eq_append_getElem hks]; have := HV.out; have e : s.data.toList[k] = s[k] := rfl; rw [e]; omega), by trivial⟩
        case measure => simp [intOf]; omega
      · have hK : k = min (nDig s.data.toList) 9 := by omega
        have HK := Lib.hid hK
        clear hK
        by_cases hks : k < s.size
        · by_cases h9 : k = 9
          · subst h9
            go_wp2
            go_meet
            exact ⟨9, hk, HK.out, rfl, rfl, rfl⟩
          · have hk8 : (k : Int) ≤ 8 := by omega
            have hkn : k = nDig s.data.toList := by have := HK.out; omega
            have hd := not_isDig_at s.data.toList (by show _ < s.size; omega)
            clear hlt h9
            by_cases hd1 : (48 : Int) ≤ (s[k].toNat : Int)
            · have hd2 : ¬ (s[k].toNat : Int) ≤ 57 := fun h => by
                subst hkn
                have : isDig s.data.toList[nDig s.data.toList] = true := (isDig_iff _).2 ⟨by exact_mod_cast hd1, by exact_mod_cast h⟩
                rw [this] at hd; cases hd
              clear hd hkn
              go_wp2
              go_meet
              exact ⟨k, hk, HK.out, rfl, rfl, rfl⟩
            · clear hd hkn
              go_wp2
              go_meet
              exact ⟨k, hk, HK.out, rfl, rfl, rfl⟩
        · go_wp2
          go_meet
          exact ⟨k, hk, HK.out, rfl, rfl, rfl⟩
  case rest =>
    obtain ⟨k, hk, hkm, rfl, rfl, rfl⟩ := hcut
    have HK := Lib.hid hkm
    clear hkm
    by_cases h0 : k = 0
    · subst h0
      go_wp2
      go_ret3
      exact ⟨by rw [natIntV_none (Or.inl (by have := HK.out; omega))]; rfl, 0, rfl⟩
    · have hb0 : ((k : Int) == 0) = false := by simp [h0]
      by_cases h8 : 8 < (k : Int)
      · go_wp2
        go_ret3
        exact ⟨by rw [natIntV_none (Or.inr (Or.inl (by have := HK.out; omega)))]; rfl, 0, rfl⟩
      · by_cases h1 : 1 < (k : Int)
        · have hs0 : 0 < s.size := by omega
          by_cases hz : ((s[0].toNat : Int) == 48) = true
          · go_wp2
            go_ret3
            exact ⟨by rw [natIntV_none (Or.inr (Or.inr (by have := HK.out; exact ⟨by omega, headq hs0 hz⟩)))]; rfl, 0, rfl⟩
          · have hz' : ((s[0].toNat : Int) == 48) = false := by simpa using hz
            go_wp2
            go_quiet (fail)
            go_wp2
            go_ret3
            have e : k = nDig s.data.toList := by have := HK.out; omega
            subst e
            exact ⟨by rw [natIntV_some (fun h => h.elim (fun h => h0 h) (fun h => h.elim (fun h => by omega) (fun h => hz (headq' hs0 h.2)))), ← extract_drop]; rfl, _, rfl⟩
        · go_wp2
          go_quiet (fail)
          go_wp2
          go_ret3
          have e : k = nDig s.data.toList := by have := HK.out; omega
          subst e
          exact ⟨by rw [natIntV_some (by rintro (h | h | ⟨h, _⟩) <;> omega), ← extract_drop]; rfl, _, rfl⟩
end Go.Proofs.YtjpigaobeegbgaaGreatDoor
