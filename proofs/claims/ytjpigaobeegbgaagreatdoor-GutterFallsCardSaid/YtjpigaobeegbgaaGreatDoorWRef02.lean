/- Walks: the reference of rational numbers at short numbers: Compare. -/
import Derived.Test.YtjpigaobeegbgaaGreatDoorJ04
set_option linter.unusedVariables false
set_option linter.unusedSimpArgs false
namespace Go.Proofs.YtjpigaobeegbgaaGreatDoor
open Go.RowKit
/-- the digits behind the sign, and what follows -/
def tailTxt (q : Rat) : List UInt8 := if q.den = 1 then [] else 47 :: Lib.decDigits q.den
def minusB (q : Rat) : Bool := decide (q.num < 0)
def slashB (q : Rat) : Bool := !decide (q.den = 1)
theorem ratText_own (q : Rat) : ratText q = (if minusB q then [45] else []) ++ (Lib.decDigits q.num.natAbs ++ tailTxt q) := by
  unfold ratText tailTxt minusB
  rcases itoa_cases q.num with ⟨h, e⟩ | ⟨h, e⟩
  · by_cases hd : q.den = 1 <;> simp [h, e, hd]
  · by_cases hd : q.den = 1 <;> simp [show ¬ q.num < 0 by omega, e, hd]
theorem dec_ge47 {n : Nat} : ∀ c ∈ Lib.decDigits n, c ≠ 47 := fun c hc e => by
  have := decDigits_isDig n c hc
  subst e
  exact absurd this (by decide)
theorem head_dec (n : Nat) (r : List UInt8) : ∃ c t, Lib.decDigits n ++ r = c :: t ∧ isDig c = true := by
  cases h : Lib.decDigits n with
  | nil => exact absurd h (decDigits_ne n)
  | cons c t => exact ⟨c, t ++ r, rfl, decDigits_isDig n c (by rw [h]; simp)⟩
def RetSplit (q : Rat) (w : World) (e : Ending) (w' : World) : Prop := ∃ n d : ByteArray, Hid (n.data.toList = Lib.decDigits q.num.natAbs) ∧ Hid (d.data.toList = if q.den = 1 then [] else Lib.decDigits q.den) ∧ e = .returned (.tuple #[.bool (minusB q), .string n, .string d, .bool (slashB q)]) ∧ Below w.heap.size w w'
theorem sizeL (s : ByteArray) : s.size = s.data.toList.length := rfl
theorem getL {s : ByteArray} {k : Nat} (h : k < s.size) : s[k] = s.data.toList[k]'h := rfl
theorem extract_take (s : ByteArray) (k : Nat) : (s.extract 0 k).data.toList = s.data.toList.take k := by
  rw [ByteArray.data_extract, Array.toList_extract, List.extract_eq_take_drop, List.drop_zero, Nat.sub_zero]
set_option maxRecDepth 100000 in
set_option maxHeartbeats 1600000 in
theorem split_small {q : Rat} (s : ByteArray) (w : World) (hs : s.data.toList = ratText q) (hq : Small q) :
    Calls Tryz.prog 122 #[.string s] w (RetSplit q w) := by
  have hl30 : s.size ≤ 30 := by rw [sizeL, hs]; exact ratText_le hq
  have ho := ratText_own q
  rw [← hs] at ho
  obtain ⟨c0, t0, hc0, hd0⟩ := head_dec q.num.natAbs (tailTxt q)
  have h0 : 0 < s.size := by rw [sizeL, ho, hc0]; simp; omega
  have hI0 : (0 : Int) < (s.size : Int) := by omega
  have e1 := toList_ne (s := s) (by omega)
  have e2 := toList_isEmpty (s := s) (by omega)
  have hm45 : ((s[0].toNat : Int) == 45) = minusB q := by
    cases hb : minusB q
    · rw [hb] at ho
      have : s.data.toList.head? = some c0 := by rw [ho, hc0]; rfl
      refine Bool.eq_false_iff.2 (fun h => ?_)
      have h2 := headq45 h0 h
      rw [this] at h2
      injection h2 with h2
      subst h2
      exact absurd hd0 (by decide)
    · rw [hb] at ho
      exact headq45' h0 (by rw [ho]; rfl)
  have HO := Lib.hid ho
  clear ho hs hc0
  generalize hmb : minusB q = mb at *
  have HMB := Lib.hid hmb
  clear hmb
  go_enter Tryz.func122, Tryz.ntmps122
  go_upto_if 18 with (fail)
  go_cut [6] (fun o wr => ∃ own : ByteArray, o = .string own ∧ own.data.toList = Lib.decDigits q.num.natAbs ++ tailTxt q ∧ wr = w)
  case first =>
    cases mb
    · go_wp2_with fail
      go_meet
      exact ⟨s, rfl, by rw [HO.out]; rfl, rfl⟩
    · go_wp2_with fail
      go_meet
      exact ⟨s.extract 1 s.size, rfl, by rw [extract_drop, HO.out]; simp, rfl⟩
  case rest =>
    obtain ⟨own, rfl, hown, rfl⟩ := hcut
    have hoz : own.size = (Lib.decDigits q.num.natAbs).length + (tailTxt q).length := by rw [sizeL, hown, List.length_append]
    have hop : (Lib.decDigits q.num.natAbs).length + (tailTxt q).length ≤ 40 := by
      have h1 : s.size = s.data.toList.length := rfl
      rw [HO.out, List.length_append, List.length_append] at h1
      omega
    have hgt := Lib.hid (fun k (hk : k < (Lib.decDigits q.num.natAbs).length) (hk' : k < own.size) => by
      have h1 : own[k] = (Lib.decDigits q.num.natAbs)[k] := by
        rw [getL hk']
        simp only [hown]
        exact List.getElem_append_left hk
      have h2 := dec_ge47 _ (List.getElem_mem hk)
      rw [← h1] at h2
      have h3 : own[k].toNat ≠ 47 := fun h => h2 (UInt8.toNat_inj.1 h)
      show ((own[k].toNat : Int) == 47) = false
      simp only [beq_eq_false_iff_ne, ne_eq]
      omega)
    generalize hp : (Lib.decDigits q.num.natAbs).length = p at *
    have HP := Lib.hid hp
    have HW := Lib.hid hown
    clear hp hown
    go_wp2_with fail
    go_loopw [8] (fun i wr => ∃ k : Nat, k ≤ p ∧ i = .int .i64 k ∧ wr = wc) (fun i _ => own.size - (intOf i).toNat)
    case atStart => exact ⟨0, by omega, rfl, rfl⟩
    case round =>
      obtain ⟨k, hk, rfl, hwr⟩ := hrel
      subst wr
      by_cases hlt : k < p
      · have hks : k < own.size := by omega
        have hne := hgt.out k hlt hks
        go_wp2_with fail
        go_roundw
        case rel => exact ⟨k + 1, by omega, by go_num, by trivial⟩
        case measure => simp [intOf]; omega
      · have e : k = p := by omega
        subst e
        by_cases hd : q.den = 1
        · have ht : tailTxt q = [] := if_pos hd
          have hts : (tailTxt q).length = 0 := by rw [ht]; rfl
          have HD := Lib.hid hd
          have hks : ¬ k < own.size := by omega
          clear ht hd
          go_wp2_with fail
          refine bodyPost_ret (v := .tuple #[.bool mb, .string own, .string ⟨#[]⟩, .bool false]) (by simp [results, Tryz.results122, go_sem]) rfl ⟨own, ⟨#[]⟩, Lib.hid ?_, Lib.hid ?_, ?_, (by repeat (first | (with_reducible first | exact Below.refl _ _ | refine Below.setCell ?_ ?_ _ | refine below_drewN ?_ _ | refine Below.drew ?_ | refine below_alloc ?_ _ | refine below_trans'' (by assumption) ?_) | exact Nat.le_refl _ | (focus (simp; done)) | (focus (simp; omega)) | omega))⟩
          · rw [HW.out, show tailTxt q = [] from if_pos HD.out, List.append_nil]
          · rw [if_pos HD.out]
          · rw [HMB.out]; unfold slashB; rw [HD.out]; rfl
        · have ht : tailTxt q = 47 :: Lib.decDigits q.den := if_neg hd
          have hts : (tailTxt q).length = (Lib.decDigits q.den).length + 1 := by rw [ht]; rfl
          have HD := Lib.hid hd
          have hks : k < own.size := by omega
          have he : ((own[k].toNat : Int) == 47) = true := by
            have h1 : own[k] = 47 := by
              rw [getL hks]
              simp only [HW.out, ht]
              rw [List.getElem_append_right (by rw [HP.out]; exact Nat.le_refl _)]
              simp [HP.out]
            rw [h1]; rfl
          have hk1 : IntKind.i64.wrap ((k : Int) + 1) = (k : Int) + 1 := IntWalk.i64_in _ (by omega)
          have hk2 : 0 ≤ (k : Int) + 1 := by omega
          have hk3 : ((k : Int) + 1).toNat = k + 1 := by omega
          clear ht hd hoz hts
          go_wp2_with fail
          go_quiet (fail)
          go_wp2_with fail
          refine bodyPost_ret (v := .tuple #[.bool mb, .string (own.extract 0 k), .string (own.extract (k + 1) own.size), .bool true]) (by simp [results, Tryz.results122, go_sem]) rfl ⟨own.extract 0 k, own.extract (k + 1) own.size, Lib.hid ?_, Lib.hid ?_, ?_, (by repeat (first | (with_reducible first | exact Below.refl _ _ | refine Below.setCell ?_ ?_ _ | refine below_drewN ?_ _ | refine Below.drew ?_ | refine below_alloc ?_ _ | refine below_trans'' (by assumption) ?_) | exact Nat.le_refl _ | (focus (simp; done)) | (focus (simp; omega)) | omega))⟩
          · rw [extract_take, HW.out, ← HP.out, List.take_left]
          · rw [extract_drop, HW.out, if_neg HD.out, show tailTxt q = 47 :: Lib.decDigits q.den from if_neg HD.out, ← HP.out]
            simp [List.drop_append]
          · rw [HMB.out]; unfold slashB; rw [decide_eq_false HD.out]; rfl
/-- digits -/
def DigS (s : ByteArray) (n : Nat) : Prop := s.data.toList = Lib.decDigits n ∧ n < 100000000
theorem DigS.size {s : ByteArray} {n : Nat} (h : DigS s n) : 1 ≤ s.size ∧ s.size ≤ 8 := by
  rw [sizeL, h.1, Lib.decDigits_length]
  refine ⟨?_, nDigits_le8 h.2⟩
  rw [← Lib.decDigits_length]
  exact List.length_pos_iff.2 (decDigits_ne n)
theorem DigS.dig {s : ByteArray} {n k : Nat} (h : DigS s n) (hk : k < s.size) : (48 : Int) ≤ (s[k].toNat : Int) ∧ (s[k].toNat : Int) ≤ 57 := by
  have h1 : isDig s[k] = true := decDigits_isDig n _ (by rw [← h.1]; exact List.getElem_mem hk)
  have := (isDig_iff _).1 h1
  omega
theorem DigS.lead {s : ByteArray} {n : Nat} (h : DigS s n) (h0 : 0 < s.size) (h1 : 1 < s.size) : ((s[0].toNat : Int) == 48) = false := by
  refine Bool.eq_false_iff.2 (fun h' => ?_)
  have h2 := headq h0 h'
  rw [h.1] at h2
  exact decDigits_head n (by rw [← h.1]; exact (show 1 < s.size from h1)) h2
set_option maxRecDepth 100000 in
set_option maxHeartbeats 800000 in
theorem rdigits_ok {n : Nat} (s : ByteArray) (w : World) (hs : DigS s n) : Calls Tryz.prog 173 #[.string s] w fun e w' => e = .returned (.bool true) ∧ w' = w := by
  obtain ⟨z1, z2⟩ := hs.size
  have hz : ((s.size : Int) == 0) = false := by rw [beq_eq_false_iff_ne]; omega
  have hz0 : ¬ s.size = 0 := by omega
  have HS := Lib.hid (fun k hk => hs.dig (k := k) hk)
  have hcase : (1 < s.size ∧ ((s[0].toNat : Int) == 48) = false) ∨ ¬ (1 : Int) < (s.size : Int) := by
    by_cases h1 : 1 < s.size
    · exact .inl ⟨h1, hs.lead z1 h1⟩
    · exact .inr (by omega)
  clear hs
  rcases hcase with ⟨h1, h48⟩ | h1
  · have h1' : (1 : Int) < (s.size : Int) := by omega
    go_enter Tryz.func173, Tryz.ntmps173
    go_wp2_with fail
    go_loopw [3] (fun i wr => ∃ k : Nat, k ≤ s.size ∧ i = .int .i64 k ∧ wr = w) (fun i _ => s.size - (intOf i).toNat)
    case atStart => exact ⟨0, by omega, rfl, rfl⟩
    case round =>
      obtain ⟨k, hk, rfl, hwr⟩ := hrel
      subst wr
      by_cases hlt : k < s.size
      · obtain ⟨d1, d2⟩ := HS.out k hlt
        go_wp2_with fail
        go_roundw
        case rel => exact ⟨k + 1, by omega, by go_num, by trivial⟩
        case measure => simp [intOf]; omega
      · go_wp2_with fail
        go_ret
        exact ⟨rfl, rfl⟩
  · go_enter Tryz.func173, Tryz.ntmps173
    go_wp2_with fail
    go_loopw [3] (fun i wr => ∃ k : Nat, k ≤ s.size ∧ i = .int .i64 k ∧ wr = w) (fun i _ => s.size - (intOf i).toNat)
    case atStart => exact ⟨0, by omega, rfl, rfl⟩
    case round =>
      obtain ⟨k, hk, rfl, hwr⟩ := hrel
      subst wr
      by_cases hlt : k < s.size
      · obtain ⟨d1, d2⟩ := HS.out k hlt
        go_wp2_with fail
        go_roundw
        case rel => exact ⟨k + 1, by omega, by go_num, by trivial⟩
        case measure => simp [intOf]; omega
      · go_wp2_with fail
        go_ret
        exact ⟨rfl, rfl⟩
set_option maxRecDepth 100000 in
set_option maxHeartbeats 800000 in
theorem rsmall_ok {n : Nat} (s : ByteArray) (w : World) (hs : DigS s n) : Calls Tryz.prog 123 #[.string s] w fun e w' => e = .returned (.int .i64 n) ∧ w' = w := by
  obtain ⟨z1, z2⟩ := hs.size
  have HS := Lib.hid (fun k hk => hs.dig (k := k) hk)
  have HV := Lib.hid (show dval (s.data.toList.take s.size) = n by rw [List.take_of_length_le (show s.data.toList.length ≤ s.size from Nat.le_refl _), hs.1, dval_decDigits])
  have HB := Lib.hid (fun k (hk : k ≤ s.size) => (show dval (s.data.toList.take k) < 10 ^ 8 from Nat.lt_of_lt_of_le (dval_take_lt s.data.toList k (by
    have e := nDig_append (l := Lib.decDigits n) (r := []) (decDigits_isDig n) (Or.inl rfl)
    rw [List.append_nil, ← hs.1] at e
    rw [e]; exact hk)) (Nat.pow_le_pow_right (by omega) (by omega))))
  clear hs
  go_enter Tryz.func123, Tryz.ntmps123
  go_wp2_with fail
  go_loopw [3, 4] (fun n i wr => ∃ k : Nat, k ≤ s.size ∧ i = .int .i64 k ∧ n = .int .i64 (dval (s.data.toList.take k) : Nat) ∧ wr = w) (fun _ i _ => s.size - (intOf i).toNat)
  case atStart => exact ⟨0, by omega, rfl, rfl, rfl⟩
  case round =>
    obtain ⟨k, hk, rfl, rfl, hwr⟩ := hrel
    subst wr
    by_cases hlt : k < s.size
    · obtain ⟨d1, d2⟩ := HS.out k hlt
      have hv := HB.out k hk
      have hv8 : (dval (s.data.toList.take k) : Int) ≤ 100000000 := by omega
      have HVS := Lib.hid (dval_snoc (s.data.toList.take k) s[k])
      clear hv
      go_wp2_with fail
      go_roundw
      case rel => exact ⟨k + 1, by omega, by go_num, ret_i64 (by rw [List.take_succ_eq_append_getElem hlt]; have := HVS.out; have e : s.data.toList[k] = s[k] := rfl; rw [e]; omega), by trivial⟩
      case measure => simp [intOf]; omega
    · have e : k = s.size := by omega
      subst e
      rw [HV.out]
      go_wp2_with fail
      go_ret
      exact ⟨rfl, rfl⟩
set_option maxRecDepth 100000 in
set_option maxHeartbeats 800000 in
theorem rgcd_any (a b : Nat) (w : World) (ha : a ≤ 4000000000000000000) (hb : b ≤ 4000000000000000000) :
    Calls Tryz.prog 174 #[.int .i64 a, .int .i64 b] w fun e w' => e = .returned (.int .i64 (Nat.gcd a b : Nat)) ∧ ∃ n, w' = w.drewN n := by
  go_enter Tryz.func174, Tryz.ntmps174
  go_wp2
  go_loopw [0, 1] (fun x y wr => ∃ m n : Nat, x = .int .i64 m ∧ y = .int .i64 n ∧ m ≤ 4000000000000000000 ∧ n ≤ 4000000000000000000 ∧ Nat.gcd m n = Nat.gcd a b ∧ ∃ q, wr = w.drewN q) (fun _ y _ => (intOf y).toNat)
  case atStart => exact ⟨a, b, rfl, rfl, ha, hb, rfl, 0, rfl⟩
  case round =>
    obtain ⟨m, n, rfl, rfl, hm, hn, hg, q, rfl⟩ := hrel
    have HG := Lib.hid hg; clear hg
    by_cases h0 : n = 0
    · subst h0
      go_wp2
      go_ret
      have := HG.out
      rw [Nat.gcd_zero_right] at this
      subst this
      exact ⟨rfl, q, rfl⟩
    · have hne : ((n : Int) != 0) = true := by simp [h0]
      have hlt : m % n < n := Nat.mod_lt _ (by omega)
      go_wp2
      go_quiet (fail)
      go_wp2
      go_roundw
      case rel => exact ⟨n, m % n, rfl, by go_num, hn, by omega, by rw [← HG.out, Nat.gcd_comm m n, Nat.gcd_comm n (m % n)]; exact (Nat.gcd_rec n m).symm, _, drewN_add _ _ _⟩
      case measure => simp [intOf]; omega
theorem dec_48 {s : ByteArray} {n : Nat} (h : s.data.toList = Lib.decDigits n) (h0 : n ≠ 0) : (s.toList == [48]) = false := by
  rw [Lib.toList_data, h]
  have : Lib.decDigits n ≠ [48] := fun e => by have := congrArg dval e; rw [dval_decDigits] at this; exact h0 (this.trans (by decide))
  simpa using this
theorem dec_49 {s : ByteArray} {n : Nat} (h : s.data.toList = Lib.decDigits n) (h0 : n ≠ 1) : (s.toList == [49]) = false := by
  rw [Lib.toList_data, h]
  have : Lib.decDigits n ≠ [49] := fun e => by have := congrArg dval e; rw [dval_decDigits] at this; exact h0 (this.trans (by decide))
  simpa using this
set_option maxRecDepth 100000 in
set_option maxHeartbeats 1600000 in
theorem rCheck02_small {q : Rat} (s : ByteArray) (w : World) (hs : s.data.toList = ratText q) (hq : Small q) :
    Calls Tryz.prog 121 #[.string s] w (RetB (.int .i64 0) w) := by
  have HS := Lib.hid hs
  have HQ := Lib.hid hq
  have hg : Nat.gcd q.num.natAbs q.den = 1 := q.reduced
  have HGCD := Lib.hid hg
  have hdp := q.den_pos
  have hmz : minusB q = true → q.num.natAbs ≠ 0 := fun h => by have h1 : q.num < 0 := of_decide_eq_true h; omega
  have HMZ := Lib.hid hmz
  have q1 := hq.1
  have q2 := hq.2
  clear hs hq hg hmz
  by_cases hd : q.den = 1
  · have hsl : slashB q = false := by unfold slashB; simp [hd]
    have HSL := Lib.hid hsl
    have HD := Lib.hid hd
    clear hsl hd
    go_enter Tryz.func121, Tryz.ntmps121
    go_wp2_with fail
    refine (split_small s _ HS.out HQ.out).mono ?_
    rintro e w1 ⟨n, d, hn, hd', rfl, hB1⟩
    rw [HSL.out]
    have hN := Lib.hid (show DigS n q.num.natAbs from ⟨hn.out, HQ.out.1⟩)
    obtain ⟨z1, z2⟩ := hN.out.size
    have zd : d.size = 0 := by rw [sizeL, hd'.out, if_pos HD.out]; rfl
    have hB : Below w.heap.size w w1 := hB1
    clear hB1
    cases hmb : minusB q
    · clear HMZ hmb
      go_wp2_with fail
      refine (rdigits_ok n _ hN.out).mono ?_
      rintro e w2 ⟨rfl, rfl⟩
      go_wp2_with fail
      go_ret
      exact ⟨rfl, hB⟩
    · have h48 := dec_48 hn.out (HMZ.out hmb)
      clear HMZ hmb
      go_wp2_with fail
      refine (rdigits_ok n _ hN.out).mono ?_
      rintro e w2 ⟨rfl, rfl⟩
      go_wp2_with fail
      go_ret
      exact ⟨rfl, hB⟩
  · have hsl : slashB q = true := by unfold slashB; simp [hd]
    have HSL := Lib.hid hsl
    have HD := Lib.hid hd
    have hd1 : q.den ≠ 1 := hd
    clear hsl hd
    go_enter Tryz.func121, Tryz.ntmps121
    go_wp2_with fail
    refine (split_small s _ HS.out HQ.out).mono ?_
    rintro e w1 ⟨n, d, hn, hd', rfl, hB1⟩
    rw [HSL.out]
    have hN := Lib.hid (show DigS n q.num.natAbs from ⟨hn.out, HQ.out.1⟩)
    have hDL : d.data.toList = Lib.decDigits q.den := by rw [hd'.out, if_neg HD.out]
    have hDD := Lib.hid (show DigS d q.den from ⟨hDL, HQ.out.2⟩)
    obtain ⟨z1, z2⟩ := hN.out.size
    obtain ⟨z3, z4⟩ := hDD.out.size
    have g48 := dec_48 hDL (by omega)
    have g49 := dec_49 hDL hd1
    have hB : Below w.heap.size w w1 := hB1
    clear hB1 hDL hd1
    cases hmb : minusB q
    · clear HMZ hmb
      go_wp2_with fail
      refine (rdigits_ok n _ hN.out).mono ?_
      rintro e w2 ⟨rfl, rfl⟩
      go_wp2_with fail
      refine (rdigits_ok d _ hDD.out).mono ?_
      rintro e w2 ⟨rfl, rfl⟩
      go_wp2_with fail
      refine (rsmall_ok n _ hN.out).mono ?_
      rintro e w2 ⟨rfl, rfl⟩
      go_wp2_with fail
      refine (rsmall_ok d _ hDD.out).mono ?_
      rintro e w2 ⟨rfl, rfl⟩
      go_wp2_with fail
      refine (rgcd_any q.num.natAbs q.den _ (by omega) (by omega)).mono ?_
      rintro e w2 ⟨rfl, nq, rfl⟩
      rw [HGCD.out]
      go_wp2_with fail
      go_ret
      exact ⟨rfl, (by repeat (first | (with_reducible first | exact Below.refl _ _ | refine Below.setCell ?_ ?_ _ | refine below_drewN ?_ _ | refine Below.drew ?_ | refine below_alloc ?_ _ | refine below_trans'' (by assumption) ?_) | exact Nat.le_refl _ | (focus (simp; done)) | (focus (simp; omega)) | omega))⟩
    · have h48 := dec_48 hn.out (HMZ.out hmb)
      clear HMZ hmb
      go_wp2_with fail
      refine (rdigits_ok n _ hN.out).mono ?_
      rintro e w2 ⟨rfl, rfl⟩
      go_wp2_with fail
      refine (rdigits_ok d _ hDD.out).mono ?_
      rintro e w2 ⟨rfl, rfl⟩
      go_wp2_with fail
      refine (rsmall_ok n _ hN.out).mono ?_
      rintro e w2 ⟨rfl, rfl⟩
      go_wp2_with fail
      refine (rsmall_ok d _ hDD.out).mono ?_
      rintro e w2 ⟨rfl, rfl⟩
      go_wp2_with fail
      refine (rgcd_any q.num.natAbs q.den _ (by omega) (by omega)).mono ?_
      rintro e w2 ⟨rfl, nq, rfl⟩
      rw [HGCD.out]
      go_wp2_with fail
      go_ret
      exact ⟨rfl, (by repeat (first | (with_reducible first | exact Below.refl _ _ | refine Below.setCell ?_ ?_ _ | refine below_drewN ?_ _ | refine Below.drew ?_ | refine below_alloc ?_ _ | refine below_trans'' (by assumption) ?_) | exact Nat.le_refl _ | (focus (simp; done)) | (focus (simp; omega)) | omega))⟩
set_option maxRecDepth 100000 in
set_option maxHeartbeats 800000 in
theorem rcheck02_small {p q : Rat} (s t : ByteArray) (w : World) (hs : s.data.toList = ratText p) (hp : Small p) (ht : t.data.toList = ratText q) (hq : Small q) :
    Calls Tryz.prog 67 #[.string s, .string t] w (RetB (.int .i64 0) w) := by
  have HS := Lib.hid hs
  have HT := Lib.hid ht
  have HP := Lib.hid hp
  have HQ := Lib.hid hq
  clear hs ht hp hq
  go_enter Tryz.func67, Tryz.ntmps67
  go_wp2_with fail
  refine (rCheck02_small s _ HS.out HP.out).mono ?_
  rintro e w1 ⟨rfl, hB1⟩
  go_wp2_with fail
  refine (rCheck02_small t _ HT.out HQ.out).mono ?_
  rintro e w2 ⟨rfl, hB2⟩
  go_wp2_with fail
  go_ret
  exact ⟨rfl, below_trans' hB1 hB2⟩
set_option maxRecDepth 100000 in
set_option maxHeartbeats 800000 in
theorem rints_small {q : Rat} (s : ByteArray) (w : World) (hs : s.data.toList = ratText q) (hq : Small q) :
    Calls Tryz.prog 68 #[.string s] w (RetB (.tuple #[.int .i64 q.num, .int .i64 q.den, .bool true]) w) := by
  have HS := Lib.hid hs
  have HQ := Lib.hid hq
  have q1 := hq.1
  have q2 := hq.2
  have hm1 : minusB q = true → -(q.num.natAbs : Int) = q.num := fun h => by have h1 : q.num < 0 := of_decide_eq_true h; omega
  have hm2 : minusB q = false → (q.num.natAbs : Int) = q.num := fun h => by have h1 : ¬ q.num < 0 := of_decide_eq_false h; omega
  have HM1 := Lib.hid hm1
  have HM2 := Lib.hid hm2
  clear hs hq hm1 hm2
  by_cases hd : q.den = 1
  · have hsl : slashB q = false := by unfold slashB; simp [hd]
    have HSL := Lib.hid hsl
    have HD := Lib.hid hd
    clear hsl hd
    go_enter Tryz.func68, Tryz.ntmps68
    go_wp2_with fail
    refine (split_small s _ HS.out HQ.out).mono ?_
    rintro e w1 ⟨n, d, hn, hd', rfl, hB1⟩
    rw [HSL.out]
    have hN := Lib.hid (show DigS n q.num.natAbs from ⟨hn.out, HQ.out.1⟩)
    obtain ⟨z1, z2⟩ := hN.out.size
    have zd : d.size = 0 := by rw [sizeL, hd'.out, if_pos HD.out]; rfl
    clear hn hd'
    cases hmb : minusB q
    · have HM := Lib.hid (HM2.out hmb)
      clear HM1 HM2 hmb
      go_wp2_with fail
      refine (rsmall_ok n _ hN.out).mono ?_
      rintro e w2 ⟨rfl, rfl⟩
      go_wp2_with fail
      go_ret3
      exact ⟨by rw [HM.out, HD.out]; rfl, hB1⟩
    · have HM := Lib.hid (HM1.out hmb)
      clear HM1 HM2 hmb
      go_wp2_with fail
      refine (rsmall_ok n _ hN.out).mono ?_
      rintro e w2 ⟨rfl, rfl⟩
      go_wp2_with fail
      go_ret3
      exact ⟨by rw [HM.out, HD.out]; rfl, hB1⟩
  · have hsl : slashB q = true := by unfold slashB; simp [hd]
    have HSL := Lib.hid hsl
    have HD := Lib.hid hd
    clear hsl hd
    go_enter Tryz.func68, Tryz.ntmps68
    go_wp2_with fail
    refine (split_small s _ HS.out HQ.out).mono ?_
    rintro e w1 ⟨n, d, hn, hd', rfl, hB1⟩
    rw [HSL.out]
    have hN := Lib.hid (show DigS n q.num.natAbs from ⟨hn.out, HQ.out.1⟩)
    have hDD := Lib.hid (show DigS d q.den from ⟨by rw [hd'.out, if_neg HD.out], HQ.out.2⟩)
    obtain ⟨z1, z2⟩ := hN.out.size
    obtain ⟨z3, z4⟩ := hDD.out.size
    clear hn hd'
    cases hmb : minusB q
    · have HM := Lib.hid (HM2.out hmb)
      clear HM1 HM2 hmb
      go_wp2_with fail
      refine (rsmall_ok n _ hN.out).mono ?_
      rintro e w2 ⟨rfl, rfl⟩
      go_wp2_with fail
      refine (rsmall_ok d _ hDD.out).mono ?_
      rintro e w2 ⟨rfl, rfl⟩
      go_wp2_with fail
      go_ret3
      exact ⟨by rw [HM.out]; rfl, hB1⟩
    · have HM := Lib.hid (HM1.out hmb)
      clear HM1 HM2 hmb
      go_wp2_with fail
      refine (rsmall_ok n _ hN.out).mono ?_
      rintro e w2 ⟨rfl, rfl⟩
      go_wp2_with fail
      refine (rsmall_ok d _ hDD.out).mono ?_
      rintro e w2 ⟨rfl, rfl⟩
      go_wp2_with fail
      go_ret3
      exact ⟨by rw [HM.out]; rfl, hB1⟩
set_option maxRecDepth 100000 in
set_option maxHeartbeats 800000 in
theorem rCompare02_small {p q : Rat} (s t : ByteArray) (w : World) (hs : s.data.toList = ratText p) (hp : Small p) (ht : t.data.toList = ratText q) (hq : Small q) :
    Calls Tryz.prog 28 #[.string s, .string t] w (RetB (.tuple #[.int .i64 (Lib.compareInt (p.num * q.den) (q.num * p.den)), .int .i64 0]) w) := by
  obtain ⟨⟨m1a, m1b⟩, ⟨m2a, m2b⟩, _⟩ := bds8 hp.n8 hq.n8
  have HS := Lib.hid hs
  have HT := Lib.hid ht
  have HP := Lib.hid hp
  have HQ := Lib.hid hq
  clear hs ht hp hq
  go_enter Tryz.func28, Tryz.ntmps28
  go_wp2_with fail
  refine (rcheck02_small s t _ HS.out HP.out HT.out HQ.out).mono ?_
  rintro e w1 ⟨rfl, hB1⟩
  go_wp2_with fail
  refine (rints_small s _ HS.out HP.out).mono ?_
  rintro e w2 ⟨rfl, hB2⟩
  go_wp2_with fail
  refine (rints_small t _ HT.out HQ.out).mono ?_
  rintro e w3 ⟨rfl, hB3⟩
  have hB : Below w.heap.size w w3 := below_trans' (below_trans' hB1 hB2) hB3
  clear hB1 hB2 hB3
  by_cases h1 : p.num * (q.den : Int) < q.num * (p.den : Int)
  · have HC := Lib.hid (show Lib.compareInt (p.num * (q.den : Int)) (q.num * (p.den : Int)) = -1 by unfold Lib.compareInt; rw [if_pos h1])
    go_wp2_with fail
    go_ret2
    exact ⟨by rw [HC.out]; rfl, hB⟩
  · by_cases h2 : q.num * (p.den : Int) < p.num * (q.den : Int)
    · have HC := Lib.hid (show Lib.compareInt (p.num * (q.den : Int)) (q.num * (p.den : Int)) = 1 by unfold Lib.compareInt; rw [if_neg h1, if_pos h2])
      go_wp2_with fail
      go_ret2
      exact ⟨by rw [HC.out]; rfl, hB⟩
    · have HC := Lib.hid (show Lib.compareInt (p.num * (q.den : Int)) (q.num * (p.den : Int)) = 0 by unfold Lib.compareInt; rw [if_neg h1, if_neg h2])
      go_wp2_with fail
      go_ret2
      exact ⟨by rw [HC.out]; rfl, hB⟩
end Go.Proofs.YtjpigaobeegbgaaGreatDoor
