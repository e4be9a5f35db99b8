/- The walk of kingpostlaw50.GutterEven. -/
import Derived.Test.YtjpigaobeegbgaaGreatDoorJ14
set_option linter.unusedVariables false
set_option linter.unusedSimpArgs false
namespace Go.Proofs.YtjpigaobeegbgaaGreatDoor
open Go.RowKit Go.Shelf
theorem parts_facts {lo hi n : Int} (h : lo < hi) (hn : 1 ≤ n) : ((parts lo hi n : Nat) : Int) ≤ hi - lo ∧ 1 ≤ parts lo hi n ∧ hi - lo ≤ 2 * n * (parts lo hi n : Nat) ∧ 2 * n * ((parts lo hi n : Nat) - 1 : Int) < hi - lo := by
  have hq0 : 0 ≤ (hi - lo + 2 * n - 1) / (2 * n) := Int.ediv_nonneg (by omega) (by omega)
  have e : ((parts lo hi n : Nat) : Int) = (hi - lo + 2 * n - 1) / (2 * n) := by unfold parts; exact Int.toNat_of_nonneg hq0
  have h1 := Int.mul_ediv_add_emod (hi - lo + 2 * n - 1) (2 * n)
  have h2 := Int.emod_nonneg (hi - lo + 2 * n - 1) (show 2 * n ≠ 0 by omega)
  have h3 := Int.emod_lt_of_pos (hi - lo + 2 * n - 1) (show 0 < 2 * n by omega)
  have h4 : 1 ≤ (hi - lo + 2 * n - 1) / (2 * n) := Int.le_ediv_of_mul_le (by omega) (by omega)
  rw [← e] at h1 h4
  generalize (hi - lo + 2 * n - 1) % (2 * n) = r at *
  generalize parts lo hi n = np at *
  have h5 : 2 * n * ((np : Int) - 1) = 2 * n * np - 2 * n := by rw [Int.mul_sub, Int.mul_one]
  have h6 : 1 * ((np : Int) - 1) ≤ 2 * n * ((np : Int) - 1) := Int.mul_le_mul_of_nonneg_right (by omega) (by omega)
  refine ⟨by omega, by omega, by omega, by omega⟩
/-- the side that a place of the plan is -/
structure AtSide (P : List Ring) (i r0 i0 : Nat) (lo hi : Int) : Prop where
  hr : r0 < P.length
  hi0 : i0 < (rg P r0).length
  at_ : i = total P r0 + i0
  gab : (sd (rg P r0) i0).gable = false
  lo_ : eLo (sd (rg P r0) i0) (nx (rg P r0) i0) = lo
  hi_ : eHi (sd (rg P r0) i0) (nx (rg P r0) i0) = hi
  l0 : 0 ≤ lo
  lh : lo < hi
  h2 : hi ≤ 200
theorem Fine.at {P : List Ring} {i : Nat} (h : Fine P i) : ∃ r0 i0 lo hi, AtSide P i r0 i0 lo hi := by
  obtain ⟨r0, i0, hr, hi0, e⟩ := place_of (P := P) P.length i (by rw [← flat_len]; exact h.lt)
  have hsB := sd_flat hr hi0
  have hx := nxi_lt hi0
  have hsC : sd (flat P) (total P r0 + nxi (rg P r0).length i0) = nx (rg P r0) i0 := sd_flat hr hx
  have hax := axis_of (h.val.shp r0 hr) hi0
  have hnC := h.near (total P r0 + nxi (rg P r0).length i0) (by rw [flat_len]; have := total_lt hr; omega)
  have hnB := h.near i h.lt
  have hg := h.gab
  rw [e, hsB] at hnB hg
  rw [hsC] at hnC
  obtain ⟨h0, h1, h2⟩ := eLo_bds (h.val.ran r0 hr i0 hi0) (h.val.ran r0 hr _ hx)
  rw [show sd (rg P r0) (nxi (rg P r0).length i0) = nx (rg P r0) i0 from rfl] at h0 h1 h2
  refine ⟨r0, i0, _, _, ⟨hr, hi0, e, hg, rfl, rfl, h0, ?_, ?_⟩⟩
  · unfold eLo eHi
    split <;> omega
  · unfold eHi
    split <;> omega
theorem tmod8 {a : Int} (a1 : 0 ≤ a) (a2 : a ≤ 255) : ∃ i : Nat, a.tmod 8 = (i : Int) ∧ i < 8 ∧ IntKind.i64.wrap (i : Int) = i ∧ IntKind.i64.wrap a = a := by
  have h : a.tmod 8 = a % 8 := Int.tmod_eq_emod_of_nonneg a1
  refine ⟨(a % 8).toNat, by rw [h]; omega, by omega, IntWalk.i64_in _ (by omega), IntWalk.i64_in _ (by omega)⟩
theorem tmod64 {b : Int} (b1 : 0 ≤ b) (b2 : b ≤ 255) : ∃ m n : Int, b.tmod 64 = m ∧ IntKind.i64.wrap (1 + m) = n ∧ 1 ≤ n ∧ n ≤ 64 ∧ IntKind.i64.wrap m = m ∧ IntKind.i64.wrap b = b := by
  have h : b.tmod 64 = b % 64 := Int.tmod_eq_emod_of_nonneg b1
  refine ⟨_, 1 + b.tmod 64, rfl, IntWalk.i64_in _ (by omega), by omega, by omega, IntWalk.i64_in _ (by omega), IntWalk.i64_in _ (by omega)⟩
theorem mid_eq (lo hi : Int) (np k : Nat) : Rat.divInt (lo * 2 * np + (hi - lo) * (2 * k + 1)) (2 * np) = mid lo hi np k := by
  unfold mid
  rw [Int.mul_comm (hi - lo), Int.mul_comm lo 2, Int.mul_assoc 2 lo, Int.mul_comm lo, ← Int.mul_assoc]
theorem mids_get {lo hi : Int} {np k : Nat} (h : k < np) (h' : k < ((mids lo hi np np).map numS).length) : ((mids lo hi np np).map numS)[k] = numS (mid lo hi np k) := by simp [mids]
/-- the outlets in memory -/
theorem mids_row {W : World} {B : Nat} {v : Value} {lo hi : Int} {np : Nat} (h : W.ownsRow B 38 1 v (mids lo hi np np).length (numVs (mids lo hi np np))) (hnp : 1 ≤ np) :
    ∃ bs os sc, v = .slice (some ⟨bs, os, none⟩) np sc ∧ ∀ k, k < np → W.cell? ⟨bs, os + k, none⟩ = some (.string (numS (mid lo hi np k))) := by
  obtain ⟨a, sc, rfl, hc⟩ := isStrs_row h
  have hl : ((mids lo hi np np).map numS).length = np := by simp [mids_length]
  obtain ⟨bs, os, rfl, hk'⟩ := hc (by intro h; rw [h] at hl; simp at hl; omega)
  refine ⟨bs, os, sc, by simp [mids_length], fun k hk => ?_⟩
  have := hk' k (by rw [hl]; exact hk)
  rwa [mids_get hk] at this
set_option maxRecDepth 100000 in
set_option maxHeartbeats 3200000 in
theorem evenLaw (P : List Ring) (v : Value) (a b : Int) (w : World) (hG : Glo w) (hv : IsPlan w v P) (hf : FitsMem P) (a1 : 0 ≤ a) (a2 : a ≤ 255) (b1 : 0 ≤ b) (b2 : b ≤ 255) :
    Calls Tryz.prog 3 #[v, .int .u8 a, .int .u8 b] w (RetB (.bool true) w) := by
  obtain ⟨i, hi, i8, hwi, hwa⟩ := tmod8 a1 a2
  obtain ⟨m, n, hm, hwn, n1, n2, hwm, hwb⟩ := tmod64 b1 b2
  have HF := Lib.hid (fun W (hB : Below w.heap.size w W) => fine_ok P v W i (hv.below hB) hf i8)
  have HG := Lib.hid hG
  have HV := Lib.hid hv
  obtain ⟨u, rfl, hu⟩ := hv
  obtain ⟨ad, cap, rfl, h⟩ := hu
  clear h hf hG
  go_enter Tryz.func3, Tryz.ntmps3
  go_wp2_with fail
  refine (HF.out _ (by repeat (first | (with_reducible first | exact Below.refl _ _ | refine Below.setCell ?_ ?_ _ | refine below_drewN ?_ _ | refine Below.drew ?_ | refine below_alloc ?_ _ | refine below_trans'' (by assumption) ?_) | exact Nat.le_refl _ | (focus (simp; done)) | (focus (simp; omega)) | omega))).mono ?_
  rintro e w1 ⟨ok, rfl, hok, hB1⟩
  have hb1 : Below w.heap.size w w1 := (by repeat (first | (with_reducible first | exact Below.refl _ _ | refine Below.setCell ?_ ?_ _ | refine below_drewN ?_ _ | refine Below.drew ?_ | refine below_alloc ?_ _ | refine below_trans'' (by assumption) ?_) | exact Nat.le_refl _ | (focus (simp; done)) | (focus (simp; omega)) | omega))
  have k1 : w1.cell? ⟨w.heap.size, 0, none⟩ = some (.slice ad P.length cap) := keep hB1 (by simp [go_sem])
  have HOK := Lib.hid hok
  clear hok hB1 HF
  cases ok
  · go_wp2_with fail
    refine (awake50_ok _ (HG.out.below hb1)).mono ?_
    rintro e w2 ⟨rfl, hB2⟩
    have hb2 : Below w.heap.size w w2 := (by repeat (first | (with_reducible first | exact Below.refl _ _ | refine Below.setCell ?_ ?_ _ | refine below_drewN ?_ _ | refine Below.drew ?_ | refine below_alloc ?_ _ | refine below_trans'' (by assumption) ?_) | exact Nat.le_refl _ | (focus (simp; done)) | (focus (simp; omega)) | omega))
    clear hB2
    go_wp2_with fail
    go_ret
    exact ⟨rfl, hb2⟩
  · have hfine := HOK.out rfl
    obtain ⟨r0, i0, lo, hi', hs⟩ := hfine.at
    have HS := Lib.hid hs
    have HVAL := Lib.hid hfine.val
    obtain ⟨hp1, hp2, hp3, hp4⟩ := parts_facts hs.lh n1
    have l0 := hs.l0
    have lh := hs.lh
    have h2 := hs.h2
    have ho := outlets_ok P (.slice ad P.length cap) w1 r0 i0 i n (HG.out.below hb1) (HV.out.below hb1) HVAL.out hs.hr hs.hi0 hs.at_ hs.gab n1 (by omega) (by rw [hs.lo_, hs.hi_]; omega)
    rw [hs.lo_, hs.hi_] at ho
    generalize parts lo hi' n = np at *
    have HO := Lib.hid ho
    clear ho hs hfine HOK
    go_wp2_with fail
    refine HO.out.mono ?_
    rintro e w2 ⟨vo, rfl, hrow, hB2⟩
    obtain ⟨bs, os, sc, rfl, hcell⟩ := mids_row hrow hp2
    have HC := Lib.hid hcell
    have hb2 : Below w.heap.size w w2 := below_trans' hb1 hB2
    have k2 := keep hB2 k1
    clear hcell hrow hB2 HO k1 hb1
    go_wp2_with fail
    have hen := ends_ok P (.agg #[.slice ad P.length cap]) w2 r0 i0 i (HV.out.below hb2) HVAL.out HS.out.hr HS.out.hi0 HS.out.at_
    rw [HS.out.lo_, HS.out.hi_] at hen
    refine hen.mono ?_
    clear hen
    rintro e w3 ⟨rfl, hB3⟩
    have hb3 : Below w.heap.size w w3 := below_trans' hb2 hB3
    have HK := Lib.hid (fun k (hk : k < np) => keep hB3 (HC.out k hk))
    clear HC hB3 k2 hb2 HS HV HVAL
    have hnp0 : ¬ (np = 0) := by omega
    have hnz : ((np : Int) == 0) = false := by simp; omega
    have e1 : 0 ≤ lo * 2 * (np : Int) := Int.mul_nonneg (by omega) (by omega)
    have e2 : lo * 2 * (np : Int) ≤ 400 * 200 := Int.mul_le_mul (by omega) (by omega) (by omega) (by omega)
    have e3 : 0 ≤ 2 * n * (np : Int) := Int.mul_nonneg (by omega) (by omega)
    have e4 : 2 * n * (np : Int) ≤ 128 * 200 := Int.mul_le_mul (by omega) (by omega) (by omega) (by omega)
    have e5 : 2 * n * ((np : Int) - 1) = 2 * n * np - 2 * n := by rw [Int.mul_sub, Int.mul_one]
    have E5 := Lib.hid e5
    clear e5
    go_wp2_with fail
    go_loopw [58] (fun i wr => ∃ k : Nat, k ≤ np ∧ i = .int .i64 k ∧ Below w3.heap.size w3 wr) (fun i _ => np - (intOf i).toNat)
    case atStart => exact ⟨0, by omega, rfl, Below.refl _ _⟩
    case round =>
      obtain ⟨k, hk, rfl, hB⟩ := hrel
      by_cases hlt : k < np
      · have ck := keep hB (HK.out k hlt)
        have d1 : 0 ≤ (hi' - lo) * (2 * (k : Int) + 1) := Int.mul_nonneg (by omega) (by omega)
        have d2 : (hi' - lo) * (2 * (k : Int) + 1) ≤ 200 * 401 := Int.mul_le_mul (by omega) (by omega) (by omega) (by omega)
        have hltI : (k : Int) < (np : Int) := by omega
        have hq := mid_eq lo hi' np k
        have HQ := Lib.hid hq
        clear hq
        go_wp2_with fail
        refine (Of_small (lo * 2 * np + (hi' - lo) * (2 * k + 1)) (2 * np) wr (HG.out.below (below_trans' hb3 hB)) (by omega) (by omega) (by omega)).mono ?_
        rintro e w4 ⟨r, hr, rfl, hB4⟩
        rw [HQ.out] at hr
        have hB' : Below w3.heap.size w3 w4 := below_trans' hB hB4
        have hE : ((numS (mid lo hi' np k)).toList == r.toList) = true := by rw [numS_of hr]; simp
        clear hr HQ ck hB hB4
        generalize numS (mid lo hi' np k) = st at *
        go_wp2_with fail
        go_roundw
        case rel => exact ⟨k + 1, by omega, by go_num, hB'⟩
        case measure => simp [intOf]; omega
      · have e : k = np := by omega
        subst e
        have hbk : Below w.heap.size w wr := below_trans' hb3 hB
        have e5 := E5.out
        by_cases h1 : k = 1
        · subst h1
          clear HK e5 E5
          go_wp2_with fail
          refine (awake50_ok _ (HG.out.below hbk)).mono ?_
          rintro e w5 ⟨rfl, hB5⟩
          have hb5 : Below w.heap.size w w5 := below_trans' hbk hB5
          clear hB5
          go_wp2_with fail
          go_ret
          exact ⟨rfl, hb5⟩
        · have h1' : ¬ ((k : Int) = 1) := by omega
          clear HK E5
          go_wp2_with fail
          refine (awake50_ok _ (HG.out.below hbk)).mono ?_
          rintro e w5 ⟨rfl, hB5⟩
          have hb5 : Below w.heap.size w w5 := below_trans' hbk hB5
          clear hB5
          go_wp2_with fail
          go_ret
          exact ⟨rfl, hb5⟩
end Go.Proofs.YtjpigaobeegbgaaGreatDoor
