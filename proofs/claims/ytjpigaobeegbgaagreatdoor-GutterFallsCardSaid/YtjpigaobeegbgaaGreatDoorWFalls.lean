/- The walk of kingpostlaw50.GutterFalls. -/
import Derived.Test.YtjpigaobeegbgaaGreatDoorWFPlain
set_option linter.unusedVariables false
set_option linter.unusedSimpArgs false
namespace Go.Proofs.YtjpigaobeegbgaaGreatDoor
open Go.RowKit Go.Shelf
theorem div_mono {a b : Rat} {k : Int} (hk : 0 < k) (h : a ≤ b) : a / (k : Rat) ≤ b / (k : Rat) := by
  rw [Rat.div_def, Rat.div_def]
  exact Rat.mul_le_mul_of_nonneg_right h (Rat.le_of_lt (Rat.inv_pos.2 (qE_pos hk)))
theorem way_ok (n k : Int) (w : World) (hG : Glo w) (n1 : 1 ≤ n) (n2 : n ≤ 64) (k1 : 1 ≤ k) (k2 : k ≤ 256) :
    Calls Tryz.prog 14 #[.int .i64 n, .int .i64 k] w (RetB (.tuple #[.string (numS ((n : Rat) / (k : Rat))), .int .i64 0]) w) := by
  by_cases h : k = 1
  · subst h
    have e : (n : Rat) / ((1 : Int) : Rat) = (n : Rat) := by
      have : ((1 : Int) : Rat) = 1 := rfl
      rw [this]; grind
    rw [e]
    exact (Of_one n w hG (by omega) (by omega)).mono fun _ _ h => h.s
  · rw [← Rat.divInt_eq_div]
    exact (Of_small n k w hG (by omega) (by omega) (by omega)).mono fun _ _ h => h.s
theorem way_small {n k : Int} (n1 : 1 ≤ n) (n2 : n ≤ 64) (k1 : 1 ≤ k) (k2 : k ≤ 256) : Small ((n : Rat) / (k : Rat)) := by
  rw [← Rat.divInt_eq_div]
  exact small_div (by omega) (by omega) (by omega)
theorem at_of {c lo hi : Int} (c1 : 0 ≤ c) (c2 : c ≤ 255) (l0 : 0 ≤ lo) (lh : lo < hi) (h2 : hi ≤ 200) : ∃ q x : Int, c.tmod (hi - lo + 1) = q ∧ lo + q = x ∧ 0 ≤ q ∧ q ≤ hi - lo ∧ lo ≤ x ∧ x ≤ hi ∧ IntKind.i64.wrap q = q ∧ IntKind.i64.wrap x = x := by
  have h : c.tmod (hi - lo + 1) = c % (hi - lo + 1) := Int.tmod_eq_emod_of_nonneg c1
  have h3 := Int.emod_nonneg c (show hi - lo + 1 ≠ 0 by omega)
  have h4 := Int.emod_lt_of_pos c (show 0 < hi - lo + 1 by omega)
  refine ⟨_, lo + c.tmod (hi - lo + 1), rfl, rfl, by omega, by omega, by omega, by omega, IntWalk.i64_in _ (by omega), IntWalk.i64_in _ (by omega)⟩
theorem way_le {lo hi n : Int} {np : Nat} (h1 : 1 ≤ np) (h : hi - lo ≤ 2 * n * np) : qE (2 * np) (hi - lo) ≤ (n : Rat) := by
  have e : 2 * (np : Int) * n = 2 * n * np := by rw [Int.mul_assoc, Int.mul_comm (np : Int) n, ← Int.mul_assoc]
  rw [qE_int (d := 2 * (np : Int)) (by omega) n, qE_le (by omega), e]
  exact h
theorem own_lt_of {W : World} {g n cap : Nat} {xs : List Value} (h : W.ownsRow g 38 1 (.slice (some ⟨g, 0, none⟩) n cap) n xs) : g < W.heap.size := by
  rcases h.2 with ⟨e, _⟩ | ⟨g', cap', cur, e, _, hg, _⟩
  · cases e
  · injection e with e1 _ _
    injection e1 with e1
    injection e1 with e1
    subst e1
    exact (Array.getElem?_eq_some_iff.1 hg).1
theorem clone2_ok {n : Nat} (l : List Rat) (v : Value) (w : World) (hn : l.length = n) (hv : IsStrs w v (l.map numS)) (hl : 1 ≤ n) (hn2 : n ≤ 200) :
    Calls Tryz.prog 30 #[v] w fun e w' => ∃ g cap, e = .returned (.slice (some ⟨g, 0, none⟩) n cap) ∧ w.heap.size ≤ g ∧ w'.ownsRow g 38 1 (.slice (some ⟨g, 0, none⟩) n cap) n (numVs l) ∧ Below w.heap.size w w' := by
  subst hn
  exact cloneN_ok l v w hv hl hn2
theorem insert2_ok {n : Nat} (l : List Rat) (x : Rat) (i g cap vb : Nat) (xs : ByteArray) (w : World) (hn : l.length = n) (hr : w.ownsRow g 38 1 (.slice (some ⟨g, 0, none⟩) n cap) n (numVs l)) (hb : Boxed w vb 38 (.string xs)) (hx : numS x = xs) (hne : vb ≠ g) (hi : i ≤ n) (hl1 : 1 ≤ n) (hl : n ≤ 200) :
    Calls Tryz.prog 29 #[.slice (some ⟨g, 0, none⟩) n cap, .int .i64 i, .slice (some ⟨vb, 0, none⟩) 1 1] w fun e w' => ∃ ai ci, e = .returned (.slice ai (n + 1) ci) ∧ IsStrs w' (.slice ai (n + 1) ci) ((insAt l i x).map numS) ∧ Below g w w' := by
  subst hn hx
  refine (insert_ok l x i g cap vb w (insIn_of hr hb hne hl1) hi hl1 hl).mono ?_
  rintro e w' ⟨v, rfl, hst, hB⟩
  obtain ⟨ai, ci, rfl, _⟩ := id hst
  have e : ((insAt l i x).map numS).length = l.length + 1 := by rw [List.length_map, insAt_length hi]
  rw [e] at hst ⊢
  exact ⟨ai, ci, rfl, hst, hB⟩
/-- the roof's box -/
def RoofAt (W : World) (b : Nat) (u : Value) : Prop := W.cell? ⟨b, 0, none⟩ = some u ∧ W.cell? ⟨b, 1, none⟩ = some (.slice none 0 0) ∧ W.cell? ⟨b, 2, none⟩ = some (.slice none 0 0) ∧ W.cell? ⟨b, 3, none⟩ = some (.slice none 0 0)
theorem RoofAt.below {W W' : World} {b B : Nat} {u : Value} (h : RoofAt W b u) (hB : Below B W W') (hb : b < B) : RoofAt W' b u := by
  have hc : ∀ o, W'.cell? ⟨b, o, none⟩ = W.cell? ⟨b, o, none⟩ := fun o => hB.cell (p := ⟨b, o, none⟩) hb
  unfold RoofAt at *
  simpa only [hc] using h
/-- what is known of the further outlet -/
structure Further (lo hi : Int) (np : Nat) (x : Int) (j : Nat) : Prop where
  le : j ≤ np
  before : ∀ t, t < j → evenE lo hi np t < 2 * np * x
  behind : ∀ t, j ≤ t → t < np → 2 * np * x < evenE lo hi np t
theorem further_of {lo hi : Int} {np j : Nat} {x : Int} (ho : Outs (mids lo hi np np) (2 * np) lo hi np (evenE lo hi np)) (hj : j ≤ (mids lo hi np np).length) (h1 : ∀ k (h : k < (mids lo hi np np).length), k < j → (mids lo hi np np)[k] < (x : Rat))
    (h2 : ∀ k (h : k < (mids lo hi np np).length), j ≤ k → (x : Rat) ≤ (mids lo hi np np)[k]) (h3 : ∀ (h : j < (mids lo hi np np).length), (mids lo hi np np)[j] ≠ (x : Rat)) : Further lo hi np x j := by
  have hl := ho.len
  have hE : (0 : Int) < 2 * np := by have := ho.e1; omega
  have hx := qE_int hE x
  have hjlt : ∀ (h : j < np), 2 * np * x < evenE lo hi np j := fun h => by
    have a1 := h2 j (by rw [hl]; exact h) (Nat.le_refl _)
    have a2 := h3 (by rw [hl]; exact h)
    rw [ho.get j (by rw [hl]; exact h), hx] at a1 a2
    have a3 := (qE_le hE).1 a1
    by_cases he : 2 * (np : Int) * x = evenE lo hi np j
    · exact absurd (by rw [he]) a2
    · omega
  refine ⟨by rw [← hl]; exact hj, fun t ht => ?_, fun t ht htn => ?_⟩
  · have a := h1 t (by omega) ht
    rw [ho.get t (by omega), hx] at a
    exact (qE_lt hE).1 a
  · have a := hjlt (by omega)
    have b := ho.mono j t ht htn
    omega
set_option maxRecDepth 100000 in
set_option maxHeartbeats 6400000 in
theorem fallsLaw (P : List Ring) (v : Value) (a b c d : Int) (w : World) (hG : Glo w) (hv : IsPlan w v P) (hf : FitsMem P) (a1 : 0 ≤ a) (a2 : a ≤ 255) (b1 : 0 ≤ b) (b2 : b ≤ 255) (c1 : 0 ≤ c) (c2 : c ≤ 255) (d1 : 0 ≤ d) (d2 : d ≤ 255) :
    Calls Tryz.prog 9 #[v, .int .u8 a, .int .u8 b, .int .u8 c, .int .u8 d] w (RetB (.bool true) w) := by
  obtain ⟨i, hi, i8, hwi, hwa⟩ := tmod8 a1 a2
  obtain ⟨m, n, hm, hwn, n1, n2, hwm, hwb⟩ := tmod64 b1 b2
  obtain ⟨k, hk, hwk, k1, k2⟩ : ∃ k : Int, 1 + d = k ∧ IntKind.i64.wrap k = k ∧ 1 ≤ k ∧ k ≤ 256 := ⟨1 + d, rfl, IntWalk.i64_in _ (by omega), by omega, by omega⟩
  have hwd : IntKind.i64.wrap d = d := IntWalk.i64_in _ (by omega)
  have hwc : IntKind.i64.wrap c = c := IntWalk.i64_in _ (by omega)
  have HF := Lib.hid (fun W (hB : Below w.heap.size w W) => fine_ok P v W i (hv.below hB) hf i8)
  have HG := Lib.hid hG
  have HV := Lib.hid hv
  obtain ⟨u, rfl, hu⟩ := hv
  obtain ⟨ad, cap, rfl, h⟩ := hu
  clear h hf hG
  go_enter Tryz.func9, Tryz.ntmps9
  go_wp2_with fail
  refine (HF.out _ (by repeat (first | (with_reducible first | exact Below.refl _ _ | refine Below.setCell ?_ ?_ _ | refine below_drewN ?_ _ | refine Below.drew ?_ | refine below_alloc ?_ _ | refine below_trans'' (by assumption) ?_) | exact Nat.le_refl _ | (focus (simp; done)) | (focus (simp; omega)) | omega))).mono ?_
  rintro e w1 ⟨ok, rfl, hok, hB1⟩
  have hb1 : Below w.heap.size w w1 := (by repeat (first | (with_reducible first | exact Below.refl _ _ | refine Below.setCell ?_ ?_ _ | refine below_drewN ?_ _ | refine Below.drew ?_ | refine below_alloc ?_ _ | refine below_trans'' (by assumption) ?_) | exact Nat.le_refl _ | (focus (simp; done)) | (focus (simp; omega)) | omega))
  have k1' : w1.cell? ⟨w.heap.size, 0, none⟩ = some (.slice ad P.length cap) := keep hB1 (by simp [go_sem])
  have HOK := Lib.hid hok
  clear hok hB1 HF
  cases ok
  · go_wp2_with fail
    refine (awake50_ok _ (HG.out.below hb1)).mono ?_
    rintro e w2 ⟨rfl, hB2⟩
    have hb2 : Below w.heap.size w w2 := (by repeat (first | (with_reducible first | exact Below.refl _ _ | refine Below.setCell ?_ ?_ _ | refine below_drewN ?_ _ | refine Below.drew ?_ | refine below_alloc ?_ _ | refine below_trans'' (by assumption) ?_) | exact Nat.le_refl _ | (focus (simp; done)) | (focus (simp; omega)) | omega))
    clear hB2
    go_wp2_with fail
    go_ret
    exact ⟨rfl, hb2⟩
  · have hfine := HOK.out rfl
    obtain ⟨r0, i0, lo, hi', hs⟩ := hfine.at
    have HS := Lib.hid hs
    have HVAL := Lib.hid hfine.val
    obtain ⟨hp1, hp2, hp3, hp4⟩ := parts_facts hs.lh n1
    have l0 := hs.l0
    have lh := hs.lh
    have h2 := hs.h2
    generalize hnp : parts lo hi' n = np at *
    have hnp100 : np ≤ 101 := by
      have h5 : 2 * 1 * ((np : Int) - 1) ≤ 2 * n * ((np : Int) - 1) := Int.mul_le_mul_of_nonneg_right (by omega) (by omega)
      omega
    have HNP := Lib.hid hnp
    have HOUT := Lib.hid (even_outs (lo := lo) (hi := hi') (np := np) hp2 (by omega) l0 lh h2)
    have HFV := Lib.hid (even_fall (lo := lo) (hi := hi') (np := np) hp2 (by omega) l0 lh h2)
    have HFW := Lib.hid (way_le (lo := lo) (hi := hi') (n := n) hp2 hp3)
    have z1 := lt_of_cell k1'
    clear hs hfine HOK hnp hp3 hp4
    have hbr : RoofAt (w1.alloc (.cells #[.slice ad P.length cap, .slice none 0 0, .slice none 0 0, .slice none 0 0] 35)) w1.heap.size (.slice ad P.length cap) := by
      refine ⟨?_, ?_, ?_, ?_⟩ <;> simp [go_sem]
    have hb2 : Below w.heap.size w (w1.alloc (.cells #[.slice ad P.length cap, .slice none 0 0, .slice none 0 0, .slice none 0 0] 35)) := below_alloc hb1 _
    have hzr : w1.heap.size < (w1.alloc (.cells #[.slice ad P.length cap, .slice none 0 0, .slice none 0 0, .slice none 0 0] 35)).heap.size := by simp
    have k2' := keep (below_alloc (Below.refl _ _) (.cells #[.slice ad P.length cap, .slice none 0 0, .slice none 0 0, .slice none 0 0] 35)) k1'
    go_wp2_with fail
    have ho := outlets_ok P (.slice ad P.length cap) (w1.alloc (.cells #[.slice ad P.length cap, .slice none 0 0, .slice none 0 0, .slice none 0 0] 35)) r0 i0 i n (HG.out.below hb2) (HV.out.below hb2) HVAL.out HS.out.hr HS.out.hi0 HS.out.at_ HS.out.gab n1 (by omega) (by rw [HS.out.lo_, HS.out.hi_, HNP.out]; omega)
    rw [HS.out.lo_, HS.out.hi_, HNP.out] at ho
    generalize w1.alloc (.cells #[.slice ad P.length cap, .slice none 0 0, .slice none 0 0, .slice none 0 0] 35) = w2 at *
    refine ho.mono ?_
    clear ho k1'
    rintro e w3 ⟨vo, rfl, hrow, hB3⟩
    have hst := isStrs_row hrow
    obtain ⟨bs, os, sc, rfl, _⟩ := mids_row hrow hp2
    have hb3 : Below w.heap.size w w3 := below_trans' hb2 hB3
    have hr3 := hbr.below hB3 hzr
    have k3' := keep hB3 k2'
    have hz3 : w1.heap.size < w3.heap.size := Nat.lt_of_lt_of_le hzr hB3.size
    have HST := Lib.hid hst
    clear hst hrow hB3 hbr hb2 k2' hzr
    go_wp2_with fail
    have hen := ends_ok P (.agg #[.slice ad P.length cap]) w3 r0 i0 i (HV.out.below hb3) HVAL.out HS.out.hr HS.out.hi0 HS.out.at_
    rw [HS.out.lo_, HS.out.hi_] at hen
    refine hen.mono ?_
    clear hen
    rintro e w4 ⟨rfl, hB4⟩
    have hb4 : Below w.heap.size w w4 := below_trans' hb3 hB4
    have hr4 := hr3.below hB4 hz3
    have hz4 : w1.heap.size < w4.heap.size := Nat.lt_of_lt_of_le hz3 hB4.size
    have HST4 := Lib.hid (HST.out.below hB4)
    obtain ⟨q0, q1, q2, q3⟩ := id hr4
    have hnz : ((np : Int) == 0) = false := by rw [beq_eq_false_iff_ne]; omega
    clear hB4 hr3 k3' HST hb3 hz3
    go_wp2_with fail
    refine (fall_ok P (.slice ad P.length cap) w4 r0 i0 i lo hi' k (mids lo hi' np np) _ (HG.out.below hb4) (HV.out.below hb4) HVAL.out HS.out HST4.out HOUT.out.ok k1 (by omega)).mono ?_
    rintro e w5 ⟨rfl, hB5⟩
    have hb5 : Below w.heap.size w w5 := below_trans' hb4 hB5
    have hr5 := hr4.below hB5 hz4
    have hz5 : w1.heap.size < w5.heap.size := Nat.lt_of_lt_of_le hz4 hB5.size
    have HST5 := Lib.hid (HST4.out.below hB5)
    clear hB5 hr4 q0 q1 q2 q3 HST4 hb4 hz4
    rw [HFV.out]
    go_wp2_with fail
    refine (way_ok n k w5 (HG.out.below hb5) n1 n2 k1 k2).mono ?_
    rintro e w6 ⟨rfl, hB6⟩
    have hb6 : Below w.heap.size w w6 := below_trans' hb5 hB6
    have hr6 := hr5.below hB6 hz5
    have hz6 : w1.heap.size < w6.heap.size := Nat.lt_of_lt_of_le hz5 hB6.size
    have HST6 := Lib.hid (HST5.out.below hB6)
    have hIn := HOUT.out.fallIn
    rw [HFV.out] at hIn
    have HS1 := Lib.hid (hIn.over HOUT.out.e1 HOUT.out.e2 k1 k2)
    have HS2 := Lib.hid (way_small n1 n2 k1 k2)
    obtain ⟨cc, hcc⟩ : ∃ c, cmpQ (qE (2 * np) (hi' - lo) / (k : Rat)) ((n : Rat) / (k : Rat)) = c := ⟨_, rfl⟩
    have hcc0 : cc ≤ 0 := hcc ▸ cmpQ_le (div_mono (by omega) HFW.out)
    have HCC := Lib.hid hcc
    clear hB6 hr5 HST5 hb5 hz5 hIn hcc
    obtain ⟨fl, hfl⟩ : ∃ f, qE (2 * np) (hi' - lo) / (k : Rat) = f := ⟨_, rfl⟩
    have HFL := Lib.hid hfl
    rw [hfl] at HS1 HCC
    clear hfl
    go_wp2_with fail
    rw [HFL.out]
    refine (Compare_small _ _ _ (numS_list _) HS1.out (numS_list _) HS2.out).mono ?_
    rintro e w7 ⟨rfl, hB7⟩
    rw [show Lib.compareInt (fl.num * ((n : Rat) / (k : Rat)).den) (((n : Rat) / (k : Rat)).num * fl.den) = cc from HCC.out]
    have hb7 : Below w.heap.size w w7 := below_trans' hb6 hB7
    have hr7 := hr6.below hB7 hz6
    have hz7 : w1.heap.size < w7.heap.size := Nat.lt_of_lt_of_le hz6 hB7.size
    have HST7 := Lib.hid (HST6.out.below hB7)
    obtain ⟨q, x, hq, hx, hq0, hq1, hx1, hx2, hwq, hwx⟩ := at_of c1 c2 l0 lh h2
    clear hB7 hr6 HST6 hb6 hz6
    have HX := Lib.hid (show Small (x : Rat) from small_int (by omega) (by omega))
    go_wp2_with fail
    refine ((Of_one x w7 (HG.out.below hb7) (by omega) (by omega)).mono fun _ _ h => h.s).mono ?_
    rintro e w8 ⟨rfl, hB8⟩
    have hb8 : Below w.heap.size w w8 := below_trans' hb7 hB8
    have hr8 := hr7.below hB8 hz7
    have hz8 : w1.heap.size < w8.heap.size := Nat.lt_of_lt_of_le hz7 hB8.size
    have HST8 := Lib.hid (HST7.out.below hB8)
    clear hB8 hr7 HST7 hb7 hz7
    go_wp2_with fail
    refine (search_ok (mids lo hi' np np) (x : Rat) _ w8 HST8.out HOUT.out.ok.poss.len HOUT.out.ok.poss.small HX.out HOUT.out.ok.poss.asc).mono ?_
    rintro e w9 ⟨j, fd, rfl, hj, hj1, hj2, hj3, hB9⟩
    have hb9 : Below w.heap.size w w9 := below_trans' hb8 hB9
    have hr9 := hr8.below hB9 hz8
    have hz9 : w1.heap.size < w9.heap.size := Nat.lt_of_lt_of_le hz8 hB9.size
    have HST9 := Lib.hid (HST8.out.below hB9)
    clear hB9 hr8 HST8 hb8 hz8
    cases fd
    · have hfu := further_of HOUT.out hj hj1 hj2 (hj3 rfl)
      have HO2 := Lib.hid (ins_outs HOUT.out (by omega) hfu.le hfu.before hfu.behind hx1 hx2)
      have HW2 := Lib.hid (ins_ways HOUT.out (even_ways (lo := lo) (hi := hi') hp2) hfu.le hfu.before hfu.behind hx1 hx2)
      have hjn := hfu.le
      have HLE := Lib.hid (div_mono (k := k) (by omega) (HO2.out.fall_le HW2.out))
      have HS3 := Lib.hid (HO2.out.fallIn.over HO2.out.e1 HO2.out.e2 k1 k2)
      have HLN := Lib.hid (mids_length lo hi' np np)
      have HIL := Lib.hid (show ((insAt (mids lo hi' np np) j (x : Rat)).map numS).length = np + 1 by rw [List.length_map, HO2.out.len])
      obtain ⟨xs, hxs⟩ : ∃ s, numS (x : Rat) = s := ⟨_, rfl⟩
      have HXS := Lib.hid hxs
      rw [hxs]
      obtain ⟨q0, q1, q2, q3⟩ := id hr9
      have hR : RoofAt w9.drew w1.heap.size (.slice ad P.length cap) ∧ Below w9.heap.size w9 w9.drew := ⟨hr9.below (B := w9.heap.size) (Below.refl _ _).drew hz9, (Below.refl _ _).drew⟩
      have hn1 : 1 ≤ np := hp2
      have hn2 : np ≤ 200 := by omega
      clear hj hj1 hj2 hj3 hfu hxs q0 q1 q2 q3 hr9
      go_wp2_with fail
      refine region_S (F := []) (R := (fun w' => RoofAt w' w1.heap.size (.slice ad P.length cap) ∧ Below w9.heap.size w9 w')) 15 #[false, false, false, false, false, false, false, false, false, false, false, false, false, false, false] (by kernel_rfl) (by kernel_rfl) (by kernel_rfl) (fun _ _ _ _ _ h => h) (fun Q' hQ' hN => ?_)
      generalize w9.drew = wd at *
      refine takeS 136 (i := 0) (v := ?_) (fw := 4) hQ' hR rfl (by kernel_rfl) (by kernel_rfl) (by kernel_rfl) (by kernel_rfl) (by kernel_rfl) (by kernel_rfl) ?_ ?_; rotate_left; (focus (intro wq hRq; obtain ⟨⟨c0, c1, c2, c3⟩, _⟩ := hRq; go_simp; (try with_reducible rfl))); (try simp only [Act.put, List.setIfInBounds_toArray, List.set_cons_zero, List.set_cons_succ])
      refine takeS 137 (i := 1) (v := ?_) (fw := 4) hQ' hR rfl (by kernel_rfl) (by kernel_rfl) (by kernel_rfl) (by kernel_rfl) (by kernel_rfl) (by kernel_rfl) ?_ ?_; rotate_left; (focus (intro wq hRq; obtain ⟨⟨c0, c1, c2, c3⟩, _⟩ := hRq; go_simp; (try with_reducible rfl))); (try simp only [Act.put, List.setIfInBounds_toArray, List.set_cons_zero, List.set_cons_succ])
      refine takeS 138 (i := 2) (v := ?_) (fw := 4) hQ' hR rfl (by kernel_rfl) (by kernel_rfl) (by kernel_rfl) (by kernel_rfl) (by kernel_rfl) (by kernel_rfl) ?_ ?_; rotate_left; (focus (intro wq hRq; obtain ⟨⟨c0, c1, c2, c3⟩, _⟩ := hRq; go_simp; (try with_reducible rfl))); (try simp only [Act.put, List.setIfInBounds_toArray, List.set_cons_zero, List.set_cons_succ])
      refine takeS 140 (i := 4) (v := ?_) (fw := 4) hQ' hR rfl (by kernel_rfl) (by kernel_rfl) (by kernel_rfl) (by kernel_rfl) (by kernel_rfl) (by kernel_rfl) ?_ ?_; rotate_left; (focus (intro wq hRq; obtain ⟨⟨c0, c1, c2, c3⟩, _⟩ := hRq; go_simp; (try with_reducible rfl))); (try simp only [Act.put, List.setIfInBounds_toArray, List.set_cons_zero, List.set_cons_succ])
      refine takeS 141 (i := 5) (v := ?_) (fw := 4) hQ' hR rfl (by kernel_rfl) (by kernel_rfl) (by kernel_rfl) (by kernel_rfl) (by kernel_rfl) (by kernel_rfl) ?_ ?_; rotate_left; (focus (intro wq hRq; obtain ⟨⟨c0, c1, c2, c3⟩, _⟩ := hRq; go_simp; (try with_reducible rfl))); (try simp only [Act.put, List.setIfInBounds_toArray, List.set_cons_zero, List.set_cons_succ])
      refine takeS 144 (i := 8) (v := ?_) (fw := 4) hQ' hR rfl (by kernel_rfl) (by kernel_rfl) (by kernel_rfl) (by kernel_rfl) (by kernel_rfl) (by kernel_rfl) ?_ ?_; rotate_left; (focus (intro wq hRq; obtain ⟨⟨c0, c1, c2, c3⟩, _⟩ := hRq; go_simp; (try with_reducible rfl))); (try simp only [Act.put, List.setIfInBounds_toArray, List.set_cons_zero, List.set_cons_succ])
      refine wpAnyS_ready (rs := [3, 6]) (by kernel_rfl) (by simp) ?_
      refine stepR (i := 3) rfl (by kernel_rfl) (fun K hK => ?_) (stepR (i := 6) rfl (by kernel_rfl) (fun K hK => ?_) (AllReadyS.nil))
      · go_simp
        refine (clone2_ok (mids lo hi' np np) _ _ HLN.out (HST9.out.below hR.2) hn1 hn2).mono ?_
        rintro e wc ⟨g, capg, rfl, hgl, hrow, hB'⟩
        have hg9 : w9.heap.size ≤ g := Nat.le_trans hR.2.size hgl
        have hz' := Nat.lt_of_lt_of_le hz9 hR.2.size
        have hR : RoofAt wc w1.heap.size (.slice ad P.length cap) ∧ Below w9.heap.size w9 wc := ⟨hR.1.below hB' hz', below_trans' hR.2 hB'⟩
        clear hz'
        clear hB' hgl
        refine hK.out _ _ hR ?_
        clear hK K
        (try simp only [Act.put, List.setIfInBounds_toArray, List.set_cons_zero, List.set_cons_succ])
        refine wpAnyS_ready (rs := [6]) (by kernel_rfl) (by simp) ?_
        refine stepR (i := 6) rfl (by kernel_rfl) (fun K hK => ?_) (AllReadyS.nil)
        go_simp
        refine after_alloc (fun wb hB' hvb hzb => ?_)
        have hne : wc.heap.size ≠ g := by have := own_lt_of hrow; omega
        have hrow := rowKeep hrow (fun t _ ht => hB'.block t ht)
        obtain ⟨vb, hvb'⟩ : ∃ vb, wc.heap.size = vb := ⟨_, rfl⟩
        rw [hvb'] at hvb hne ⊢
        have hvb : Boxed wb vb 38 (.string xs) := hvb
        have hz' := Nat.lt_of_lt_of_le hz9 hR.2.size
        have hR : RoofAt wb w1.heap.size (.slice ad P.length cap) ∧ Below w9.heap.size w9 wb := ⟨hR.1.below hB' hz', below_trans' hR.2 hB'⟩
        clear hz'
        clear hB' hzb hvb'
        refine hK.out _ _ hR ?_
        clear hK K
        (try simp only [Act.put, List.setIfInBounds_toArray, List.set_cons_zero, List.set_cons_succ])
        refine wpAnyS_ready (rs := [7]) (by kernel_rfl) (by simp) ?_
        refine stepR (i := 7) rfl (by kernel_rfl) (fun K hK => ?_) (AllReadyS.nil)
        go_simp
        refine (insert2_ok (mids lo hi' np np) (x : Rat) j g capg vb xs _ HLN.out hrow hvb HXS.out hne hjn hn1 hn2).mono ?_
        rintro e wi ⟨ai, ci, rfl, hst, hBg⟩
        have hR : RoofAt wi w1.heap.size (.slice ad P.length cap) ∧ Below w9.heap.size w9 wi := ⟨hR.1.below hBg (Nat.lt_of_lt_of_le hz9 hg9), hR.2.trans (hBg.mono hg9)⟩
        have HST' := Lib.hid hst
        clear hBg hst hrow hvb
        refine hK.out _ _ hR ?_
        clear hK K
        (try simp only [Act.put, List.setIfInBounds_toArray, List.set_cons_zero, List.set_cons_succ])
        refine wpAnyS_ready (rs := [9]) (by kernel_rfl) (by simp) ?_
        refine stepR (i := 9) rfl (by kernel_rfl) (fun K hK => ?_) (AllReadyS.nil)
        have hbx := below_trans' hb9 hR.2
        go_simp
        refine (fall_ok P (.slice ad P.length cap) _ r0 i0 i lo hi' k (insAt (mids lo hi' np np) j (x : Rat)) _ (HG.out.below hbx) (HV.out.below hbx) HVAL.out HS.out HST'.out HO2.out.ok k1 (by omega)).mono ?_
        rintro e wf ⟨rfl, hB'⟩
        have hz' := Nat.lt_of_lt_of_le hz9 hR.2.size
        have hR : RoofAt wf w1.heap.size (.slice ad P.length cap) ∧ Below w9.heap.size w9 wf := ⟨hR.1.below hB' hz', below_trans' hR.2 hB'⟩
        clear hz'
        clear hB' hbx
        refine hK.out _ _ hR ?_
        clear hK K
        (try simp only [Act.put, List.setIfInBounds_toArray, List.set_cons_zero, List.set_cons_succ])
        refine takeS 135 (i := 10) (v := ?_) (fw := 4) hQ' hR rfl (by kernel_rfl) (by kernel_rfl) (by kernel_rfl) (by kernel_rfl) (by kernel_rfl) (by kernel_rfl) ?_ ?_; rotate_left; (focus (intro wq hRq; obtain ⟨⟨c0, c1, c2, c3⟩, _⟩ := hRq; go_simp; (try with_reducible rfl))); (try simp only [Act.put, List.setIfInBounds_toArray, List.set_cons_zero, List.set_cons_succ])
        refine takeS 146 (i := 11) (v := ?_) (fw := 4) hQ' hR rfl (by kernel_rfl) (by kernel_rfl) (by kernel_rfl) (by kernel_rfl) (by kernel_rfl) (by kernel_rfl) ?_ ?_; rotate_left; (focus (intro wq hRq; obtain ⟨⟨c0, c1, c2, c3⟩, _⟩ := hRq; go_simp; (try with_reducible rfl))); (try simp only [Act.put, List.setIfInBounds_toArray, List.set_cons_zero, List.set_cons_succ])
        refine takeS 147 (i := 12) (v := ?_) (fw := 4) hQ' hR rfl (by kernel_rfl) (by kernel_rfl) (by kernel_rfl) (by kernel_rfl) (by kernel_rfl) (by kernel_rfl) ?_ ?_; rotate_left; (focus (intro wq hRq; obtain ⟨⟨c0, c1, c2, c3⟩, _⟩ := hRq; go_simp; (try with_reducible rfl))); (try simp only [Act.put, List.setIfInBounds_toArray, List.set_cons_zero, List.set_cons_succ])
        refine takeS 28 (i := 13) (v := ?_) (fw := 4) hQ' hR rfl (by kernel_rfl) (by kernel_rfl) (by kernel_rfl) (by kernel_rfl) (by kernel_rfl) (by kernel_rfl) ?_ ?_; rotate_left; (focus (intro wq hRq; obtain ⟨⟨c0, c1, c2, c3⟩, _⟩ := hRq; go_simp; (try with_reducible rfl))); (try simp only [Act.put, List.setIfInBounds_toArray, List.set_cons_zero, List.set_cons_succ])
        refine takeS 21 (i := 14) (v := ?_) (fw := 4) hQ' hR rfl (by kernel_rfl) (by kernel_rfl) (by kernel_rfl) (by kernel_rfl) (by kernel_rfl) (by kernel_rfl) ?_ ?_; rotate_left; (focus (intro wq hRq; obtain ⟨⟨c0, c1, c2, c3⟩, _⟩ := hRq; go_simp; (try with_reducible rfl))); (try simp only [Act.put, List.setIfInBounds_toArray, List.set_cons_zero, List.set_cons_succ])
        refine wpAnyS_done (by kernel_rfl) ?_ _
        refine hN.out _ _ ?_
        have hb10 := below_trans' hb9 hR.2
        obtain ⟨c2, hc2⟩ : ∃ c, cmpQ (fallOf (insAt (mids lo hi' np np) j (x : Rat)) lo hi' / (k : Rat)) fl = c := ⟨_, rfl⟩
        have hc20 : c2 ≤ 0 := hc2 ▸ cmpQ_le (by rw [← HFL.out]; exact HLE.out)
        have HC2 := Lib.hid hc2
        clear hc2 hR
        go_wp2_with fail
        refine (Compare_small _ _ _ (numS_list _) HS3.out (numS_list _) HS1.out).mono ?_
        rintro e w11 ⟨rfl, hB11⟩
        rw [show Lib.compareInt ((fallOf (insAt (mids lo hi' np np) j (x : Rat)) lo hi' / (k : Rat)).num * fl.den) (fl.num * (fallOf (insAt (mids lo hi' np np) j (x : Rat)) lo hi' / (k : Rat)).den) = c2 from HC2.out]
        have hb11 := below_trans' hb10 hB11
        clear hB11 hb10
        go_wp2_with fail
        refine (awake50_ok _ (HG.out.below hb11)).mono ?_
        rintro e w12 ⟨rfl, hB12⟩
        have hb12 := below_trans' hb11 hB12
        clear hB12 hb11
        go_wp2_with fail
        go_ret
        exact ⟨rfl, hb12⟩
      · go_simp
        refine after_alloc (fun wb hB' hvb hzb => ?_)
        obtain ⟨vb, hvb'⟩ : ∃ vb, wd.heap.size = vb := ⟨_, rfl⟩
        rw [hvb'] at hvb ⊢
        have hvb : Boxed wb vb 38 (.string xs) := hvb
        have hz' := Nat.lt_of_lt_of_le hz9 hR.2.size
        have hR : RoofAt wb w1.heap.size (.slice ad P.length cap) ∧ Below w9.heap.size w9 wb := ⟨hR.1.below hB' hz', below_trans' hR.2 hB'⟩
        clear hz'
        clear hB' hzb hvb'
        refine hK.out _ _ hR ?_
        clear hK K
        (try simp only [Act.put, List.setIfInBounds_toArray, List.set_cons_zero, List.set_cons_succ])
        refine wpAnyS_ready (rs := [3]) (by kernel_rfl) (by simp) ?_
        refine stepR (i := 3) rfl (by kernel_rfl) (fun K hK => ?_) (AllReadyS.nil)
        go_simp
        refine (clone2_ok (mids lo hi' np np) _ _ HLN.out (HST9.out.below hR.2) hn1 hn2).mono ?_
        rintro e wc ⟨g, capg, rfl, hgl, hrow, hB'⟩
        have hg9 : w9.heap.size ≤ g := Nat.le_trans hR.2.size hgl
        have hne : vb ≠ g := by have := Boxed.lt hvb; omega
        have hvb : Boxed wc vb 38 (.string xs) := (hB'.block vb hvb.lt).trans hvb
        have hz' := Nat.lt_of_lt_of_le hz9 hR.2.size
        have hR : RoofAt wc w1.heap.size (.slice ad P.length cap) ∧ Below w9.heap.size w9 wc := ⟨hR.1.below hB' hz', below_trans' hR.2 hB'⟩
        clear hz'
        clear hB' hgl
        refine hK.out _ _ hR ?_
        clear hK K
        (try simp only [Act.put, List.setIfInBounds_toArray, List.set_cons_zero, List.set_cons_succ])
        refine wpAnyS_ready (rs := [7]) (by kernel_rfl) (by simp) ?_
        refine stepR (i := 7) rfl (by kernel_rfl) (fun K hK => ?_) (AllReadyS.nil)
        go_simp
        refine (insert2_ok (mids lo hi' np np) (x : Rat) j g capg vb xs _ HLN.out hrow hvb HXS.out hne hjn hn1 hn2).mono ?_
        rintro e wi ⟨ai, ci, rfl, hst, hBg⟩
        have hR : RoofAt wi w1.heap.size (.slice ad P.length cap) ∧ Below w9.heap.size w9 wi := ⟨hR.1.below hBg (Nat.lt_of_lt_of_le hz9 hg9), hR.2.trans (hBg.mono hg9)⟩
        have HST' := Lib.hid hst
        clear hBg hst hrow hvb
        refine hK.out _ _ hR ?_
        clear hK K
        (try simp only [Act.put, List.setIfInBounds_toArray, List.set_cons_zero, List.set_cons_succ])
        refine wpAnyS_ready (rs := [9]) (by kernel_rfl) (by simp) ?_
        refine stepR (i := 9) rfl (by kernel_rfl) (fun K hK => ?_) (AllReadyS.nil)
        have hbx := below_trans' hb9 hR.2
        go_simp
        refine (fall_ok P (.slice ad P.length cap) _ r0 i0 i lo hi' k (insAt (mids lo hi' np np) j (x : Rat)) _ (HG.out.below hbx) (HV.out.below hbx) HVAL.out HS.out HST'.out HO2.out.ok k1 (by omega)).mono ?_
        rintro e wf ⟨rfl, hB'⟩
        have hz' := Nat.lt_of_lt_of_le hz9 hR.2.size
        have hR : RoofAt wf w1.heap.size (.slice ad P.length cap) ∧ Below w9.heap.size w9 wf := ⟨hR.1.below hB' hz', below_trans' hR.2 hB'⟩
        clear hz'
        clear hB' hbx
        refine hK.out _ _ hR ?_
        clear hK K
        (try simp only [Act.put, List.setIfInBounds_toArray, List.set_cons_zero, List.set_cons_succ])
        refine takeS 135 (i := 10) (v := ?_) (fw := 4) hQ' hR rfl (by kernel_rfl) (by kernel_rfl) (by kernel_rfl) (by kernel_rfl) (by kernel_rfl) (by kernel_rfl) ?_ ?_; rotate_left; (focus (intro wq hRq; obtain ⟨⟨c0, c1, c2, c3⟩, _⟩ := hRq; go_simp; (try with_reducible rfl))); (try simp only [Act.put, List.setIfInBounds_toArray, List.set_cons_zero, List.set_cons_succ])
        refine takeS 146 (i := 11) (v := ?_) (fw := 4) hQ' hR rfl (by kernel_rfl) (by kernel_rfl) (by kernel_rfl) (by kernel_rfl) (by kernel_rfl) (by kernel_rfl) ?_ ?_; rotate_left; (focus (intro wq hRq; obtain ⟨⟨c0, c1, c2, c3⟩, _⟩ := hRq; go_simp; (try with_reducible rfl))); (try simp only [Act.put, List.setIfInBounds_toArray, List.set_cons_zero, List.set_cons_succ])
        refine takeS 147 (i := 12) (v := ?_) (fw := 4) hQ' hR rfl (by kernel_rfl) (by kernel_rfl) (by kernel_rfl) (by kernel_rfl) (by kernel_rfl) (by kernel_rfl) ?_ ?_; rotate_left; (focus (intro wq hRq; obtain ⟨⟨c0, c1, c2, c3⟩, _⟩ := hRq; go_simp; (try with_reducible rfl))); (try simp only [Act.put, List.setIfInBounds_toArray, List.set_cons_zero, List.set_cons_succ])
        refine takeS 28 (i := 13) (v := ?_) (fw := 4) hQ' hR rfl (by kernel_rfl) (by kernel_rfl) (by kernel_rfl) (by kernel_rfl) (by kernel_rfl) (by kernel_rfl) ?_ ?_; rotate_left; (focus (intro wq hRq; obtain ⟨⟨c0, c1, c2, c3⟩, _⟩ := hRq; go_simp; (try with_reducible rfl))); (try simp only [Act.put, List.setIfInBounds_toArray, List.set_cons_zero, List.set_cons_succ])
        refine takeS 21 (i := 14) (v := ?_) (fw := 4) hQ' hR rfl (by kernel_rfl) (by kernel_rfl) (by kernel_rfl) (by kernel_rfl) (by kernel_rfl) (by kernel_rfl) ?_ ?_; rotate_left; (focus (intro wq hRq; obtain ⟨⟨c0, c1, c2, c3⟩, _⟩ := hRq; go_simp; (try with_reducible rfl))); (try simp only [Act.put, List.setIfInBounds_toArray, List.set_cons_zero, List.set_cons_succ])
        refine wpAnyS_done (by kernel_rfl) ?_ _
        refine hN.out _ _ ?_
        have hb10 := below_trans' hb9 hR.2
        obtain ⟨c2, hc2⟩ : ∃ c, cmpQ (fallOf (insAt (mids lo hi' np np) j (x : Rat)) lo hi' / (k : Rat)) fl = c := ⟨_, rfl⟩
        have hc20 : c2 ≤ 0 := hc2 ▸ cmpQ_le (by rw [← HFL.out]; exact HLE.out)
        have HC2 := Lib.hid hc2
        clear hc2 hR
        go_wp2_with fail
        refine (Compare_small _ _ _ (numS_list _) HS3.out (numS_list _) HS1.out).mono ?_
        rintro e w11 ⟨rfl, hB11⟩
        rw [show Lib.compareInt ((fallOf (insAt (mids lo hi' np np) j (x : Rat)) lo hi' / (k : Rat)).num * fl.den) (fl.num * (fallOf (insAt (mids lo hi' np np) j (x : Rat)) lo hi' / (k : Rat)).den) = c2 from HC2.out]
        have hb11 := below_trans' hb10 hB11
        clear hB11 hb10
        go_wp2_with fail
        refine (awake50_ok _ (HG.out.below hb11)).mono ?_
        rintro e w12 ⟨rfl, hB12⟩
        have hb12 := below_trans' hb11 hB12
        clear hB12 hb11
        go_wp2_with fail
        go_ret
        exact ⟨rfl, hb12⟩
    · clear hj hj1 hj2 hj3
      go_wp2_with fail
      refine (awake50_ok _ (HG.out.below hb9)).mono ?_
      rintro e w10 ⟨rfl, hB10⟩
      have hb10 : Below w.heap.size w w10 := below_trans' hb9 hB10
      clear hB10
      go_wp2_with fail
      go_ret
      exact ⟨rfl, hb10⟩
end Go.Proofs.YtjpigaobeegbgaaGreatDoor
