/- The walk of rational.nativeOf. -/
import Derived.Test.YtjpigaobeegbgaaGreatDoorWNat
namespace Go.Proofs.YtjpigaobeegbgaaGreatDoor
open Go.RowKit
theorem own_lt {s own : ByteArray} (ho : own.data.toList = if s.data.toList.head? = some 45 then s.data.toList.tail else s.data.toList) (hz : s.data.toList.head? = some 45) : (own.size : Int) < (s.size : Int) := by
  have h1 : own.size = own.data.toList.length := rfl
  have h2 : s.size = s.data.toList.length := rfl
  rw [h1, h2, ho, if_pos hz]
  cases h : s.data.toList with
  | nil => rw [h] at hz; cases hz
  | cons a t => simp only [List.tail_cons, List.length_cons]; omega
theorem own_le {s own : ByteArray} (ho : own.data.toList = if s.data.toList.head? = some 45 then s.data.toList.tail else s.data.toList) (hz : ¬ s.data.toList.head? = some 45) : ¬ (own.size : Int) < (s.size : Int) := by
  have h1 : own.size = own.data.toList.length := rfl
  have h2 : s.size = s.data.toList.length := rfl
  rw [h1, h2, ho, if_neg hz]; omega
theorem nativeInt_none (s : ByteArray) (w : World) (hs : s.size ≤ maxLen) (h : natInt s.data.toList = none) :
    Calls Tryz.prog 116 #[.string s] w (RetQ (.tuple #[.int .i64 0, .string .empty, .bool false]) w) := by
  have := nativeInt_any s w hs
  rw [natIntV, h] at this; exact this
theorem nativeInt_ok (s : ByteArray) (w : World) (hs : s.size ≤ maxLen) {n : Nat} {r : List UInt8} (h : natInt s.data.toList = some (n, r)) :
    Calls Tryz.prog 116 #[.string s] w (RetQ (.tuple #[.int .i64 n, .string ⟨r.toArray⟩, .bool true]) w) := by
  have := nativeInt_any s w hs
  rw [natIntV, h] at this; exact this
theorem nativeInt_ok' (s : ByteArray) (w : World) (hs : s.size ≤ maxLen) {n : Nat} {r : List UInt8} (h : natInt s.data.toList = some (n, r)) :
    Calls Tryz.prog 116 #[.string s] w fun e w' => ∃ rs : ByteArray, Hid (rs.data.toList = r) ∧ e = .returned (.tuple #[.int .i64 n, .string rs, .bool true]) ∧ ∃ q, w' = w.drewN q :=
  (nativeInt_ok s w hs h).mono fun _ _ ⟨h1, h2⟩ => ⟨⟨r.toArray⟩, Lib.hid (by simp), h1, h2⟩
theorem natInt_le {l : List UInt8} {n : Nat} {r : List UInt8} (h : natInt l = some (n, r)) : r.length ≤ l.length := by
  unfold natInt at h
  split at h
  · cases h
  · simp only [Option.some.injEq, Prod.mk.injEq] at h
    rw [← h.2]; simp
theorem natInt_lt {l : List UInt8} {n : Nat} {r : List UInt8} (h : natInt l = some (n, r)) : n < 100000000 := by
  unfold natInt at h
  split at h
  · cases h
  · rename_i hc
    simp only [Option.some.injEq, Prod.mk.injEq] at h
    have h1 := dval_take_lt l (nDig l) (Nat.le_refl _)
    have h2 : 10 ^ nDig l ≤ 10 ^ 8 := Nat.pow_le_pow_right (by omega) (by omega)
    omega
def natOfV (l : List UInt8) : Value := match natOf l with | none => .tuple #[.agg #[.int .i64 0, .int .i64 0], .bool false] | some (n, d) => .tuple #[.agg #[.int .i64 n, .int .i64 d], .bool true]
set_option maxRecDepth 100000 in
set_option maxHeartbeats 800000 in
theorem nativeOf_any (s : ByteArray) (w : World) (hs : s.size ≤ maxLen) :
    Calls Tryz.prog 62 #[.string s] w (RetB (natOfV s.data.toList) w) := by
  unfold maxLen at hs
  go_enter Tryz.func62, Tryz.ntmps62
  go_upto_region 1 with fail
  go_cut [4] (fun o wr => o = .string s ∧ wr = w.alloc (.cells #[.int .i64 0, .int .i64 0] 100))
  case first =>
    go_wp2_with fail
    go_meet
    exact ⟨rfl, rfl⟩
  case rest =>
    obtain ⟨rfl, rfl⟩ := hcut
    go_step
    go_step
    go_cut [4] (fun o wr => ∃ own : ByteArray, o = .string own ∧ own.data.toList = (if s.data.toList.head? = some 45 then s.data.toList.tail else s.data.toList) ∧ wr = w.alloc (.cells #[.int .i64 0, .int .i64 0] 100))
    case first =>
      by_cases h0 : s.size = 0
      · have e1 := toList_nil h0
        go_wp2_with fail
        go_meet
        exact ⟨s, rfl, by rw [data_nil h0]; rfl, rfl⟩
      · have e1 := toList_ne h0
        have e2 := toList_isEmpty h0
        have e3 : 0 < s.size := by omega
        by_cases hm : ((s[0].toNat : Int) == 45) = true
        · go_wp2_with fail
          go_meet
          exact ⟨s.extract 1 s.size, rfl, by rw [extract_drop, if_pos (headq45 e3 hm)]; simp, rfl⟩
        · have hm' : ((s[0].toNat : Int) == 45) = false := by simpa using hm
          go_wp2_with fail
          go_meet
          exact ⟨s, rfl, by rw [if_neg (fun h => hm (headq45' e3 h))], rfl⟩
    case rest =>
      obtain ⟨own, rfl, hown, rfl⟩ := hcut
      have hos : own.size ≤ maxLen := by
        have : own.data.toList.length ≤ s.data.toList.length := by rw [hown]; split <;> simp
        have e1 : own.data.toList.length = own.size := rfl
        have e2 : s.data.toList.length = s.size := rfl
        unfold maxLen; omega
      have HO := Lib.hid hown
      clear hown
      rcases hn : natInt own.data.toList with _ | ⟨n, r⟩
      · have HN := Lib.hid hn
        have HV : Hid (natOfV s.data.toList = .tuple #[.agg #[.int .i64 0, .int .i64 0], .bool false]) := Lib.hid (by unfold natOfV; rw [natOf_own HO.out, hn])
        clear hn
        go_wp2_with (go_at_call 116; refine (nativeInt_none own _ hos HN.out).mono ?_; rintro e w' ⟨rfl, nq, rfl⟩)
        refine bodyPost_ret (v := natOfV s.data.toList) (by rw [HV.out]; simp [results, Tryz.results62, go_sem]) rfl ⟨rfl, ?_⟩
        exact (by repeat (first | (with_reducible first | exact Below.refl _ _ | refine Below.setCell ?_ ?_ _ | refine below_drewN ?_ _ | refine Below.drew ?_ | refine below_alloc ?_ _ | refine below_trans'' (by assumption) ?_) | exact Nat.le_refl _ | (focus (simp; done)) | (focus (simp; omega)) | omega))
      · have HN := Lib.hid hn
        by_cases hz : s.data.toList.head? = some 45 ∧ n = 0
        · obtain ⟨hz1, rfl⟩ := hz
          have HV : Hid (natOfV s.data.toList = .tuple #[.agg #[.int .i64 0, .int .i64 0], .bool false]) := Lib.hid (by unfold natOfV; rw [natOf_own HO.out, hn]; simp [hz1])
          have hlt := own_lt HO.out hz1
          clear hn hz1
          go_wp2_with (go_at_call 116; refine (nativeInt_ok own _ hos HN.out).mono ?_; rintro e w' ⟨rfl, nq, rfl⟩)
          refine bodyPost_ret (v := natOfV s.data.toList) (by rw [HV.out]; simp [results, Tryz.results62, go_sem]) rfl ⟨rfl, ?_⟩
          exact (by repeat (first | (with_reducible first | exact Below.refl _ _ | refine Below.setCell ?_ ?_ _ | refine below_drewN ?_ _ | refine Below.drew ?_ | refine below_alloc ?_ _ | refine below_trans'' (by assumption) ?_) | exact Nat.le_refl _ | (focus (simp; done)) | (focus (simp; omega)) | omega))
        · have HZ := Lib.hid hz
          clear hn hz
          go_step
          go_step
          go_cut [5, 6, 7] (fun n' r' ok wr => n' = .int .i64 n ∧ ok = .bool true ∧ (∃ rs : ByteArray, r' = .string rs ∧ rs.data.toList = r) ∧ ∃ q, wr = (w.alloc (.cells #[.int .i64 0, .int .i64 0] 100)).drewN q)
          case first =>
            go_wp2_with (go_at_call 116; refine (nativeInt_ok own _ hos HN.out).mono ?_; rintro e w' ⟨rfl, nq, rfl⟩)
            go_meet
            exact ⟨rfl, rfl, ⟨_, rfl, rfl⟩, _, rfl⟩
          case rest =>
            obtain ⟨rfl, rfl, ⟨rs, rfl, hrs⟩, q, rfl⟩ := hcut
            have HR := Lib.hid hrs
            clear hrs
            go_step
            go_step
            go_cut [7] (fun _ wr => wr = (w.alloc (.cells #[.int .i64 0, .int .i64 0] 100)).drewN q)
            case first =>
              by_cases hm : s.data.toList.head? = some 45
              · have hlt := own_lt HO.out hm
                have h0 : ((n : Int) == 0) = false := by
                  have := HZ.out; simp; intro h; exact this ⟨hm, h⟩
                clear hm
                go_wp2_with fail
                go_meet
                trivial
              · have hlt := own_le HO.out hm
                clear hm
                go_wp2_with fail
                go_meet
                trivial
            case rest =>
              obtain rfl := hcut
              go_upto_region 7 with fail
              go_cut [8] (fun p wr => p = .pointer (some ⟨w.heap.size + 1, 0, none⟩) ∧ wr = ((w.alloc (.cells #[.int .i64 0, .int .i64 0] 100)).alloc (.cells #[.int .i64 n, .int .i64 1] 100)).drewN q)
              case first =>
                go_wp2_with fail
                go_meet
                exact ⟨rfl, rfl⟩
              case rest =>
                obtain ⟨rfl, rfl⟩ := hcut
                go_step
                go_step
                go_cut [6] (fun _ wr => ∃ d : Nat, natOf s.data.toList = some (if s.data.toList.head? = some 45 then -(n : Int) else n, d) ∧ wr.cell? ⟨w.heap.size + 1, 0, none⟩ = some (.int .i64 n) ∧ wr.cell? ⟨w.heap.size + 1, 1, none⟩ = some (.int .i64 d) ∧ wr.cell? ⟨w.heap.size, 0, none⟩ = some (.int .i64 0) ∧ wr.cell? ⟨w.heap.size, 1, none⟩ = some (.int .i64 0) ∧ wr.frozen? ⟨w.heap.size + 1, 0, none⟩ = false ∧ wr.frozen? ⟨w.heap.size + 1, 1, none⟩ = false ∧ wr.frozen? ⟨w.heap.size, 0, none⟩ = false ∧ wr.frozen? ⟨w.heap.size, 1, none⟩ = false ∧ Below w.heap.size w wr)
                case first =>
                  by_cases h0 : rs.size = 0
                  · have e1 := toList_nil h0
                    have e4 : r = [] := by rw [← HR.out]; exact data_nil h0
                    have HV : Hid (natOf s.data.toList = some (if s.data.toList.head? = some 45 then -(n : Int) else n, 1)) := Lib.hid (by rw [natOf_own HO.out, HN.out]; simp [HZ.out, e4])
                    clear e4 h0
                    go_wp2_with fail
                    go_meet
                    refine ⟨1, HV.out, ?_, ?_, ?_, ?_, ?_, ?_, ?_, ?_, (by repeat (first | (with_reducible first | exact Below.refl _ _ | refine Below.setCell ?_ ?_ _ | refine below_drewN ?_ _ | refine Below.drew ?_ | refine below_alloc ?_ _ | refine below_trans'' (by assumption) ?_) | exact Nat.le_refl _ | (focus (simp; done)) | (focus (simp; omega)) | omega))⟩ <;> simp [go_sem]
                  · have e1 := toList_ne h0
                    have e2 := toList_isEmpty h0
                    have e3 : 0 < rs.size := by omega
                    have e4 : ¬ r = [] := fun h => h0 (by have := HR.out; rw [h] at this; exact congrArg List.length this)
                    by_cases hs : ((rs[0].toNat : Int) != 47) = true
                    · have HV : Hid (natOfV s.data.toList = .tuple #[.agg #[.int .i64 0, .int .i64 0], .bool false]) := Lib.hid (by
                        unfold natOfV; rw [natOf_own HO.out, HN.out]
                        have : ¬ r.head? = some 47 := fun h => by rw [← HR.out] at h; have := headqc' (c := 47) e3 h; simp at hs; exact hs (by simpa using this)
                        simp [HZ.out, e4, this])
                      clear e4
                      go_wp2_with fail
                      refine bodyPost_ret (v := natOfV s.data.toList) (by rw [HV.out]; simp [results, Tryz.results62, go_sem]) rfl ⟨rfl, ?_⟩
                      exact (by repeat (first | (with_reducible first | exact Below.refl _ _ | refine Below.setCell ?_ ?_ _ | refine below_drewN ?_ _ | refine Below.drew ?_ | refine below_alloc ?_ _ | refine below_trans'' (by assumption) ?_) | exact Nat.le_refl _ | (focus (simp; done)) | (focus (simp; omega)) | omega))
                    · have hs' : ((rs[0].toNat : Int) != 47) = false := by simpa using hs
                      have e5 : r.head? = some 47 := by rw [← HR.out]; exact headqc (c := 47) e3 (by simpa using hs)
                      have hx : (rs.extract 1 rs.size).data.toList = r.tail := by rw [extract_drop, ← HR.out]; simp
                      have hxs : (rs.extract 1 rs.size).size ≤ maxLen := by
                        have e1 : (rs.extract 1 rs.size).size = r.tail.length := by rw [← hx]; rfl
                        have e2 := natInt_le HN.out
                        have e3 : own.data.toList.length = own.size := rfl
                        rw [e1]; simp; omega
                      rcases hd : natInt r.tail with _ | ⟨d, r'⟩
                      · have HV : Hid (natOfV s.data.toList = .tuple #[.agg #[.int .i64 0, .int .i64 0], .bool false]) := Lib.hid (by
                          unfold natOfV; rw [natOf_own HO.out, HN.out]
                          simp [HZ.out, e4, e5, hd])
                        have HD := Lib.hid hd
                        have HX := Lib.hid hx
                        clear hd hx e4 e5
                        go_wp2_with (go_at_call 116; refine (nativeInt_none _ _ hxs (by rw [HX.out]; exact HD.out)).mono ?_; rintro e w' ⟨rfl, nq, rfl⟩)
                        refine bodyPost_ret (v := natOfV s.data.toList) (by rw [HV.out]; simp [results, Tryz.results62, go_sem]) rfl ⟨rfl, ?_⟩
                        exact (by repeat (first | (with_reducible first | exact Below.refl _ _ | refine Below.setCell ?_ ?_ _ | refine below_drewN ?_ _ | refine Below.drew ?_ | refine below_alloc ?_ _ | refine below_trans'' (by assumption) ?_) | exact Nat.le_refl _ | (focus (simp; done)) | (focus (simp; omega)) | omega))
                      · have hd8 := natInt_lt hd
                        have hn8 := natInt_lt HN.out
                        have HD := Lib.hid hd
                        have HX := Lib.hid hx
                        clear hx
                        by_cases hbad : r' ≠ [] ∨ d < 2 ∨ Nat.gcd n d ≠ 1
                        · have HV : Hid (natOfV s.data.toList = .tuple #[.agg #[.int .i64 0, .int .i64 0], .bool false]) := Lib.hid (by
                            unfold natOfV; rw [natOf_own HO.out, HN.out]
                            simp only [if_neg HZ.out, if_neg e4, e5, ne_eq, not_true, if_false, hd, if_pos hbad])
                          clear hd e4 e5
                          by_cases b1 : r' = []
                          · subst b1
                            by_cases b2 : d < 2
                            · clear hbad
                              have b2' : (d : Int) < 2 := by omega
                              go_wp2_with (go_at_call 116; refine (nativeInt_ok' _ _ hxs (by rw [HX.out]; exact HD.out)).mono ?_; rintro e w' ⟨rs', hrs', rfl, nq, rfl⟩; have e1' := toList_nil (s := rs') (congrArg List.length hrs'.out))
                              refine bodyPost_ret (v := natOfV s.data.toList) (by rw [HV.out]; simp [results, Tryz.results62, go_sem]) rfl ⟨rfl, ?_⟩
                              exact (by repeat (first | (with_reducible first | exact Below.refl _ _ | refine Below.setCell ?_ ?_ _ | refine below_drewN ?_ _ | refine Below.drew ?_ | refine below_alloc ?_ _ | refine below_trans'' (by assumption) ?_) | exact Nat.le_refl _ | (focus (simp; done)) | (focus (simp; omega)) | omega))
                            · have b3 : (((Nat.gcd n d : Nat) : Int) != 1) = true := by
                                rcases hbad with h | h | h
                                · exact absurd rfl h
                                · exact absurd h b2
                                · simp; omega
                              have b2' : ¬ (d : Int) < 2 := by omega
                              clear hbad
                              go_wp2_with (first | (go_at_call 116; refine (nativeInt_ok' _ _ hxs (by rw [HX.out]; exact HD.out)).mono ?_; rintro e w' ⟨rs', hrs', rfl, nq, rfl⟩; have e1' := toList_nil (s := rs') (congrArg List.length hrs'.out)) | (go_at_call 117; refine (gcd_any _ _ _ (by omega) (by omega)).mono ?_; rintro e w' ⟨rfl, nq', rfl⟩))
                              refine bodyPost_ret (v := natOfV s.data.toList) (by rw [HV.out]; simp [results, Tryz.results62, go_sem]) rfl ⟨rfl, ?_⟩
                              exact (by repeat (first | (with_reducible first | exact Below.refl _ _ | refine Below.setCell ?_ ?_ _ | refine below_drewN ?_ _ | refine Below.drew ?_ | refine below_alloc ?_ _ | refine below_trans'' (by assumption) ?_) | exact Nat.le_refl _ | (focus (simp; done)) | (focus (simp; omega)) | omega))
                          · clear hbad
                            go_wp2_with (go_at_call 116; refine (nativeInt_ok' _ _ hxs (by rw [HX.out]; exact HD.out)).mono ?_; rintro e w' ⟨rs', hrs', rfl, nq, rfl⟩; have e1' := toList_ne (s := rs') (fun h => b1 (by rw [← hrs'.out]; exact data_nil h)); have e2' := toList_isEmpty (s := rs') (fun h => b1 (by rw [← hrs'.out]; exact data_nil h)))
                            refine bodyPost_ret (v := natOfV s.data.toList) (by rw [HV.out]; simp [results, Tryz.results62, go_sem]) rfl ⟨rfl, ?_⟩
                            exact (by repeat (first | (with_reducible first | exact Below.refl _ _ | refine Below.setCell ?_ ?_ _ | refine below_drewN ?_ _ | refine Below.drew ?_ | refine below_alloc ?_ _ | refine below_trans'' (by assumption) ?_) | exact Nat.le_refl _ | (focus (simp; done)) | (focus (simp; omega)) | omega))
                        · have g1 : r' = [] := Decidable.byContradiction fun h => hbad (Or.inl h)
                          have g2 : ¬ (d : Int) < 2 := fun h => hbad (Or.inr (Or.inl (by omega)))
                          have g3 : (((Nat.gcd n d : Nat) : Int) != 1) = false := by
                            have : Nat.gcd n d = 1 := Decidable.byContradiction fun h => hbad (Or.inr (Or.inr h))
                            simp [this]
                          have HV : Hid (natOf s.data.toList = some (if s.data.toList.head? = some 45 then -(n : Int) else n, d)) := Lib.hid (by
                            rw [natOf_own HO.out, HN.out]
                            simp only [if_neg HZ.out, if_neg e4, e5, ne_eq, not_true, if_false, hd, if_neg hbad])
                          subst g1
                          clear hd e4 e5 hbad
                          go_wp2_with (first | (go_at_call 116; refine (nativeInt_ok' _ _ hxs (by rw [HX.out]; exact HD.out)).mono ?_; rintro e w' ⟨rs', hrs', rfl, nq, rfl⟩; have e1' := toList_nil (s := rs') (congrArg List.length hrs'.out)) | (go_at_call 117; refine (gcd_any _ _ _ (by omega) (by omega)).mono ?_; rintro e w' ⟨rfl, nq', rfl⟩))
                          go_meet
                          refine ⟨d, HV.out, ?_, ?_, ?_, ?_, ?_, ?_, ?_, ?_, (by repeat (first | (with_reducible first | exact Below.refl _ _ | refine Below.setCell ?_ ?_ _ | refine below_drewN ?_ _ | refine Below.drew ?_ | refine below_alloc ?_ _ | refine below_trans'' (by assumption) ?_) | exact Nat.le_refl _ | (focus (simp; done)) | (focus (simp; omega)) | omega))⟩ <;> simp [go_sem]
                case rest =>
                  obtain ⟨d, hV, c1, c2, c3, c4, z1, z2, z3, z4, hB⟩ := hcut
                  have HV := Lib.hid hV
                  clear hV
                  have hn8 := natInt_lt HN.out
                  have hB2 := lt_of_cell c1
                  by_cases hm : s.data.toList.head? = some 45
                  · have hlt := own_lt HO.out hm
                    have HW : Hid (natOfV s.data.toList = .tuple #[.agg #[.int .i64 (-(n : Int)), .int .i64 d], .bool true]) := Lib.hid (by unfold natOfV; rw [HV.out, if_pos hm])
                    clear hm
                    go_wp2_with fail
                    refine bodyPost_ret (v := natOfV s.data.toList) (by rw [HW.out]; simp [results, Tryz.results62, go_sem, c1, c2, c3, c4, hB2, Nat.lt_of_succ_lt hB2]) rfl ⟨rfl, ?_⟩
                    exact (by repeat (first | (with_reducible first | exact Below.refl _ _ | exact hB | refine Below.setCell ?_ ?_ _ | refine below_drewN ?_ _ | refine Below.drew ?_ | refine below_alloc ?_ _ | refine below_trans'' (by assumption) ?_) | exact Nat.le_refl _ | (focus (simp; done)) | (focus (simp; omega)) | omega))
                  · have hlt := own_le HO.out hm
                    have HW : Hid (natOfV s.data.toList = .tuple #[.agg #[.int .i64 n, .int .i64 d], .bool true]) := Lib.hid (by unfold natOfV; rw [HV.out, if_neg hm])
                    clear hm
                    go_wp2_with fail
                    refine bodyPost_ret (v := natOfV s.data.toList) (by rw [HW.out]; simp [results, Tryz.results62, go_sem, c1, c2, c3, c4, hB2, Nat.lt_of_succ_lt hB2]) rfl ⟨rfl, ?_⟩
                    exact (by repeat (first | (with_reducible first | exact Below.refl _ _ | exact hB | refine Below.setCell ?_ ?_ _ | refine below_drewN ?_ _ | refine Below.drew ?_ | refine below_alloc ?_ _ | refine below_trans'' (by assumption) ?_) | exact Nat.le_refl _ | (focus (simp; done)) | (focus (simp; omega)) | omega))
end Go.Proofs.YtjpigaobeegbgaaGreatDoor
