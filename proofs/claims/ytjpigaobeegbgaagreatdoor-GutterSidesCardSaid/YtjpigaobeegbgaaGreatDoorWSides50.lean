/- The walk of kingpostlaw50.GutterSides. -/
import Derived.Test.YtjpigaobeegbgaaGreatDoorWTurned
set_option linter.unusedVariables false
set_option linter.unusedSimpArgs false
namespace Go.Proofs.YtjpigaobeegbgaaGreatDoor
open Go.RowKit Go.Shelf
theorem Tryz.infoRing : (Tryz.prog.info? 62).map (fun i => (i.zero, i.size, i.bytes)) = some (some (.slice none 0 0), 1, 24) := by kernel_rfl
theorem tmod48 {c : Int} (c1 : 0 ≤ c) (c2 : c ≤ 255) : ∃ m n : Int, c.tmod 48 = m ∧ IntKind.i64.wrap (1 + m) = n ∧ 1 ≤ n ∧ n ≤ 48 ∧ IntKind.i64.wrap m = m ∧ IntKind.i64.wrap c = c := by
  have h : c.tmod 48 = c % 48 := Int.tmod_eq_emod_of_nonneg c1
  refine ⟨_, 1 + c.tmod 48, rfl, IntWalk.i64_in _ (by omega), by omega, by omega, IntWalk.i64_in _ (by omega), IntWalk.i64_in _ (by omega)⟩
/-- the plan's first rings, turned, each in a block of its own, as the elements of a row -/
def TurnedTo (rs : Int) (P : List Ring) (r : Nat) (vals : List Value) (W : World) : Prop := vals.length = r ∧ ∀ k, k < r → ∃ g cap, vals[k]? = some (.slice (some ⟨g, 0, none⟩) (rg P k).length cap) ∧ OwnBlk W g ∧ ∀ j, j < (rg P k).length → SideAt W g (j * 7) (modS rs (sd (rg P k) j))
theorem TurnedTo.of {rs : Int} {P : List Ring} {r : Nat} {vals : List Value} {W W' : World} (h : TurnedTo rs P r vals W) (hb : ∀ g, OwnBlk W g → W'.heap[g]? = W.heap[g]?) : TurnedTo rs P r vals W' := by
  refine ⟨h.1, fun k hk => ?_⟩
  obtain ⟨g, cap, e, ho, hs⟩ := h.2 k hk
  exact ⟨g, cap, e, ho.of (hb g ho), fun j hj => (hs j hj).of (hb g ho)⟩
theorem TurnedTo.snoc {rs : Int} {P : List Ring} {r g cap : Nat} {vals : List Value} {W : World} (h : TurnedTo rs P r vals W) (ho : OwnBlk W g) (hs : ∀ j, j < (rg P r).length → SideAt W g (j * 7) (modS rs (sd (rg P r) j))) :
    TurnedTo rs P (r + 1) (vals ++ [.slice (some ⟨g, 0, none⟩) (rg P r).length cap]) W := by
  refine ⟨by rw [List.length_append, h.1]; rfl, fun k hk => ?_⟩
  by_cases hkr : k < r
  · obtain ⟨g', cap', e, ho', hs'⟩ := h.2 k hkr
    exact ⟨g', cap', by rw [List.getElem?_append_left (by rw [h.1]; exact hkr)]; exact e, ho', hs'⟩
  · obtain rfl : k = r := by omega
    exact ⟨g, cap, by rw [List.getElem?_append_right (by rw [h.1]; exact Nat.le_refl _), h.1]; simp, ho, hs⟩
theorem TurnedTo.plan {rs : Int} {P : List Ring} {vals : List Value} {W : World} {B : Nat} {sa : Option Addr} {sc : Nat} (h : TurnedTo rs P P.length vals W) (hrow : W.ownsRow B 62 1 (.slice sa P.length sc) P.length vals) :
    IsPlan W (.agg #[.slice sa P.length sc]) (modP rs P) := by
  refine ⟨_, rfl, sa, sc, by rw [modP_length], fun hne => ?_⟩
  rcases hrow.2 with ⟨e, h0⟩ | ⟨g, cap, cur, e, _, hg, hle, _, hcs, ht⟩
  · exact absurd (List.length_eq_zero_iff.1 (by rw [modP_length]; exact h0)) hne
  · cases e
    refine ⟨g, 0, rfl, fun k hk => ?_⟩
    rw [modP_length] at hk
    obtain ⟨g', cap', e, ho, hs⟩ := h.2 k hk
    refine ⟨.slice (some ⟨g', 0, none⟩) (rg P k).length cap', ?_, ?_⟩
    · have h1 : (cur.toList.take (P.length * 1))[k]? = vals[k]? := by rw [ht]
      rw [List.getElem?_take_of_lt (by omega), e] at h1
      have h2 : cur[k]? = some (.slice (some ⟨g', 0, none⟩) (rg P k).length cap') := by simpa using h1
      simp [World.cell?, hg, h2]
    · rw [rg_modP]
      refine ⟨_, _, by rw [modR_length], fun _ => ⟨_, _, rfl, fun j hj => ?_⟩⟩
      rw [modR_length] at hj
      rw [Nat.zero_add, sd_modR hj]
      exact hs j hj
theorem row_of {W W' : World} {B e size n : Nat} {v : Value} {xs : List Value} (h : W.ownsRow B e size v n xs) (hb : ∀ k, B ≤ k → k < W.heap.size → W'.heap[k]? = W.heap[k]?) : W'.ownsRow B e size v n xs := by
  refine ⟨h.1, ?_⟩
  rcases h.2 with hn | ⟨g, cap, cur, e, hB, hg, rest⟩
  · exact .inl hn
  · exact .inr ⟨g, cap, cur, e, hB, (hb g hB (Array.getElem?_eq_some_iff.1 hg).1).trans hg, rest⟩
/-- a ring's block is not the row's -/
theorem ring_ne_row {W : World} {B n g : Nat} {v : Value} {xs : List Value} (h : W.ownsRow B 62 1 v n xs) (ho : OwnBlk W g) : some g ≠ v.ownBlock := by
  intro e
  rcases h.2 with ⟨rfl, _⟩ | ⟨g2, cap, cur, rfl, _, hg, _⟩
  · cases e
  · cases e
    obtain ⟨c, hc⟩ := ho
    rw [hg] at hc
    injection hc with h1
    injection h1 with _ h2 _
    exact absurd h2 (by decide)
theorem ring_ne_box {W : World} {B g : Nat} {v : Value} (h : Boxed W B 24 v) (ho : OwnBlk W g) : g ≠ B := by
  rintro rfl
  obtain ⟨c, hc⟩ := ho
  rw [show W.heap[g]? = _ from h] at hc
  injection hc with h1
  injection h1 with _ h2 _
  exact absurd h2 (by decide)
theorem box_ne_row {W : World} {B n : Nat} {v : Value} {xs : List Value} (h : W.ownsRow (B + 1) 62 1 v n xs) : some B ≠ v.ownBlock := by
  intro e
  rcases h.2 with ⟨rfl, _⟩ | ⟨g2, cap, cur, rfl, hb, _⟩
  · cases e
  · cases e
    have hb' : g2 + 1 ≤ g2 := hb
    omega
theorem row_ge {W : World} {B n k : Nat} {v : Value} {xs : List Value} (h : W.ownsRow (B + 1) 62 1 v n xs) (hk : v.ownBlock = some k) : B ≤ k := by
  rcases h.2 with ⟨rfl, _⟩ | ⟨g2, cap, cur, rfl, hb, _⟩
  · cases hk
  · cases hk
    have hb' : B + 1 ≤ g2 := hb
    show B ≤ g2
    omega
theorem SameBut.refl' (b : Nat) (w : World) : SameBut b w w := ⟨rfl, rfl, rfl, rfl, fun _ _ => rfl⟩
/-- what an append to the plan's row leaves -/
structure Appended (rs : Int) (P : List Ring) (r B : Nat) (vals : List Value) (v v' : Value) (w1 W : World) : Prop where
  row : W.ownsRow (B + 1) 62 1 v' (r + 1) vals
  turned : TurnedTo rs P (r + 1) vals W
  box : Boxed W B 24 v
  below : Below B w1 W
theorem Appended.store {rs : Int} {P : List Ring} {r B : Nat} {vals : List Value} {v v' : Value} {w1 W : World} (h : Appended rs P r B vals v v' w1 W) :
    Boxed (W.setCell ⟨B, 0, none⟩ v') B 24 v' ∧ (W.setCell ⟨B, 0, none⟩ v').ownsRow (B + 1) 62 1 v' (r + 1) vals ∧ TurnedTo rs P (r + 1) vals (W.setCell ⟨B, 0, none⟩ v') ∧ Below B w1 (W.setCell ⟨B, 0, none⟩ v') :=
  ⟨h.box.set v', row_of h.row (fun k hk _ => Below.heap_setCell W ⟨B, 0, none⟩ v' k (show k ≠ B by omega)), h.turned.of (fun g ho => Below.heap_setCell W ⟨B, 0, none⟩ v' g (ring_ne_box h.box ho)), (sameBut_setCell W B 0 v').below h.below (Nat.le_refl _)⟩
/-- the sides up to one are turned -/
def ringTo (rs : Int) (l : Ring) (k j : Nat) : Side := if j < k then modS rs (sd l j) else sd l j
/-- the world in which a turned ring is appended -/
abbrev withRing (wi : World) (g n cap : Nat) : World := wi.alloc (.cells #[.slice (some ⟨g, 0, none⟩) n cap] 62)
theorem append_key {rs : Int} {P : List Ring} {r g capg sc : Nat} {vals : List Value} {sa : Option Addr} {w1 wr wc wi : World} (hB : Below w1.heap.size w1 wr) (hbx : Boxed wr w1.heap.size 24 (.slice sa r sc))
    (hrow : wr.ownsRow (w1.heap.size + 1) 62 1 (.slice sa r sc) r vals) (hT : TurnedTo rs P r vals wr) (hBc : Below wr.heap.size wr wc) (hg : wr.heap.size ≤ g) (hsm : SameBut g wc wi) (ho : OwnBlk wi g)
    (hsd : ∀ j, j < (rg P r).length → SideAt wi g (j * 7) (ringTo rs (rg P r) (rg P r).length j)) :
    Boxed wi w1.heap.size 24 (.slice sa r sc) ∧ (withRing wi g (rg P r).length capg).ownsRow (w1.heap.size + 1) 62 1 (.slice sa r sc) r vals ∧
    (∀ j u, [Value.slice (some ⟨g, 0, none⟩) (rg P r).length capg][j]? = some u → (withRing wi g (rg P r).length capg).cell? (Addr.add ⟨wi.heap.size, 0, none⟩ j) = some u) ∧
    w1.heap.size + 1 ≤ (withRing wi g (rg P r).length capg).heap.size ∧
    ∀ (v' : Value) (W : World), W.ownsRow (w1.heap.size + 1) 62 1 v' (r + 1) (vals ++ [.slice (some ⟨g, 0, none⟩) (rg P r).length capg]) → (withRing wi g (rg P r).length capg).grownBy W (Value.slice sa r sc).ownBlock →
      Appended rs P r w1.heap.size (vals ++ [.slice (some ⟨g, 0, none⟩) (rg P r).length capg]) (.slice sa r sc) v' w1 W := by
  have hblk : ∀ j, j < wr.heap.size → wi.heap[j]? = wr.heap[j]? := fun j hj => (hsm.block j (by omega)).trans (hBc.block j hj)
  have hbxi : Boxed wi w1.heap.size 24 (.slice sa r sc) := (hblk _ hbx.lt).trans hbx
  have hrowi := row_of hrow (fun j _ hj => hblk j hj)
  have hTi : TurnedTo rs P r vals wi := hT.of (fun g' ho' => hblk g' ho'.lt)
  have hTs := hTi.snoc (cap := capg) ho (fun j hj => by have := hsd j hj; rwa [show ringTo rs (rg P r) (rg P r).length j = modS rs (sd (rg P r) j) from if_pos hj] at this)
  have hBi : Below w1.heap.size w1 wi := hsm.below (hB.trans (hBc.mono hB.size)) (Nat.le_trans hB.size hg)
  have hzi : w1.heap.size < wi.heap.size := hbxi.lt
  have hX : ∀ j, j < wi.heap.size → (withRing wi g (rg P r).length capg).heap[j]? = wi.heap[j]? := fun j hj => heap_alloc_old wi _ hj
  have hrowX := row_of hrowi (fun j _ hj => hX j hj)
  have hTX := hTs.of (fun g' ho' => hX g' ho'.lt)
  have hbxX : Boxed (withRing wi g (rg P r).length capg) w1.heap.size 24 (.slice sa r sc) := (hX _ hbxi.lt).trans hbxi
  have hBX : Below w1.heap.size w1 (withRing wi g (rg P r).length capg) := below_alloc hBi _
  refine ⟨hbxi, hrowX, fun j u h => ?_, by simp; omega, fun v' W ho' hg' => ⟨ho', hTX.of (fun g' hg2 => hg'.block g' hg2.lt (ring_ne_row hrowX hg2)), hbxX.kept hg' (box_ne_row hrowX), Below.grown hBX hg' hBX.size (fun k hk => row_ge hrowX hk)⟩⟩
  cases j with
  | zero => simp at h; subst h; simp [Addr.add, go_sem]
  | succ j => simp at h
set_option maxRecDepth 100000 in
set_option maxHeartbeats 6400000 in
theorem sidesLaw (P : List Ring) (v : Value) (a b c : Int) (w : World) (hG : Glo w) (hv : IsPlan w v P) (hf : FitsMem P) (a1 : 0 ≤ a) (a2 : a ≤ 255) (b1 : 0 ≤ b) (b2 : b ≤ 255) (c1 : 0 ≤ c) (c2 : c ≤ 255) :
    Calls Tryz.prog 8 #[v, .int .u8 a, .int .u8 b, .int .u8 c] w (RetB (.bool true) w) := by
  obtain ⟨i, hi, i8, hwi, hwa⟩ := tmod8 a1 a2
  obtain ⟨m, n, hm, hwn, n1, n2, hwm, hwb⟩ := tmod64 b1 b2
  obtain ⟨q, rs, hq, hwr, r1, r2, hwq, hwc⟩ := tmod48 c1 c2
  obtain ⟨iR, hi0, hz0, hz1, hz2⟩ := info_parts Tryz.infoRing
  have HF := Lib.hid (fun W (hB : Below w.heap.size w W) => fine_ok P v W i (hv.below hB) hf i8)
  have HG := Lib.hid hG
  have HV := Lib.hid hv
  obtain ⟨u, rfl, hu⟩ := hv
  obtain ⟨ad, cap, rfl, h⟩ := hu
  have HR := Lib.hid h
  clear h hf hG
  go_enter Tryz.func8, Tryz.ntmps8
  go_wp2_with fail
  refine (HF.out _ (by repeat (first | (with_reducible first | exact Below.refl _ _ | refine Below.setCell ?_ ?_ _ | refine below_drewN ?_ _ | refine Below.drew ?_ | refine below_alloc ?_ _ | refine below_trans'' (by assumption) ?_) | exact Nat.le_refl _ | (focus (simp; done)) | (focus (simp; omega)) | omega))).mono ?_
  rintro e w1 ⟨ok, rfl, hok, hB1⟩
  have hb1 : Below w.heap.size w w1 := (by repeat (first | (with_reducible first | exact Below.refl _ _ | refine Below.setCell ?_ ?_ _ | refine below_drewN ?_ _ | refine Below.drew ?_ | refine below_alloc ?_ _ | refine below_trans'' (by assumption) ?_) | exact Nat.le_refl _ | (focus (simp; done)) | (focus (simp; omega)) | omega))
  have k1 : w1.cell? ⟨w.heap.size, 0, none⟩ = some (.slice ad P.length cap) := keep hB1 (by simp [go_sem])
  have HOK := Lib.hid hok
  clear hok hB1 HF
  cases ok
  · go_wp2_with fail
    refine (awake50_ok _ (HG.out.below hb1)).mono ?_
    rintro e w2 ⟨rfl, hB2⟩
    have hb2 : Below w.heap.size w w2 := (by repeat (first | (with_reducible first | exact Below.refl _ _ | refine Below.setCell ?_ ?_ _ | refine below_drewN ?_ _ | refine Below.drew ?_ | refine below_alloc ?_ _ | refine below_trans'' (by assumption) ?_) | exact Nat.le_refl _ | (focus (simp; done)) | (focus (simp; omega)) | omega))
    clear hB2
    go_wp2_with fail
    go_ret
    exact ⟨rfl, hb2⟩
  · have hfine := HOK.out rfl
    obtain ⟨r0, i0, lo, hi', hs⟩ := hfine.at
    have HS := Lib.hid hs
    have HVAL := Lib.hid hfine.val
    obtain ⟨hp1, hp2, hp3, hp4⟩ := parts_facts hs.lh n1
    have l0 := hs.l0
    have lh := hs.lh
    have h2 := hs.h2
    have hP1 : P.length ≤ 24 := by have := rings_le hfine.val.nes P.length (Nat.le_refl _); have := hfine.val.tot; omega
    generalize hnp : parts lo hi' n = np at *
    have HNP := Lib.hid hnp
    obtain ⟨br, offr, rfl, hcr⟩ := HR.out hfine.val.ne
    have HCR := Lib.hid hcr
    have z1 := lt_of_cell k1
    clear hs hfine HOK hcr HR hnp hp3 hp4
    go_wp2_with fail
    go_loopw [35] (fun i wr => ∃ (r : Nat) (sa : Option Addr) (sc : Nat) (vals : List Value), r ≤ P.length ∧ i = .int .i64 r ∧ Boxed wr w1.heap.size 24 (.slice sa r sc) ∧ wr.ownsRow (w1.heap.size + 1) 62 1 (.slice sa r sc) r vals ∧ TurnedTo rs P r vals wr ∧ Below w1.heap.size w1 wr) (fun i _ => P.length - (intOf i).toNat)
    case atStart => exact ⟨0, none, 0, [], by omega, rfl, Boxed.new _ _ _, World.ownsRow_nil _ _ _ _, ⟨rfl, fun k hk => by omega⟩, below_alloc (Below.refl _ _) _⟩
    case round =>
      obtain ⟨r, sa, sc, vals, hr, rfl, hbx, hrow, hT, hB⟩ := hrel
      have hbr : Below w.heap.size w wr := below_trans' hb1 hB
      by_cases hrP : r < P.length
      · obtain ⟨ur, cr, hur⟩ := HCR.out r hrP
        have cr' := keep hbr cr
        have hlen : (rg P r).length ≤ 24 := by have := len_le (P := P) hrP; have := HVAL.out.tot; omega
        have hne := HVAL.out.nes r hrP
        have HCL := Lib.hid (clone_ok (rg P r) ur wr (hur.below hbr) hne hlen)
        have HB := Lib.hid hB
        have HBX := Lib.hid hbx
        have HROW := Lib.hid hrow
        have HT := Lib.hid hT
        obtain ⟨uc, ul, rfl, _⟩ := id hur
        clear hur cr hB hbx hrow hT hne
        go_wp2_with fail
        refine HCL.out.mono ?_
        rintro e wc ⟨g, capg, rfl, hg1, hg2, hg3, hBc⟩
        have HO := Lib.hid hg2
        have HSD := Lib.hid hg3
        have hzc := hg2.lt
        have KEY := Lib.hid (fun (wi : World) hsm ho hsd => append_key (capg := capg) (wi := wi) HB.out HBX.out HROW.out HT.out hBc hg1 hsm ho hsd)
        clear hg2 hg3 hBc cr' HCL HB HBX HROW HT
        go_wp2_with fail
        go_loopw [43] (fun i wi => ∃ k : Nat, k ≤ (rg P r).length ∧ i = .int .i64 k ∧ SameBut g wc wi ∧ OwnBlk wi g ∧ Hid (∀ j, j < (rg P r).length → SideAt wi g (j * 7) (ringTo rs (rg P r) k j))) (fun i _ => (rg P r).length - (intOf i).toNat)
        case atStart => exact ⟨0, by omega, rfl, SameBut.refl' _ _, HO.out, Lib.hid (fun j hj => by rw [show ringTo rs (rg P r) 0 j = sd (rg P r) j from if_neg (by omega)]; exact HSD.out j hj)⟩
        case round =>
          obtain ⟨k, hk, rfl, hsm, ho, hsd⟩ := hrel
          by_cases hkl : k < (rg P r).length
          · have hsk := hsd.out k hkl
            rw [show ringTo rs (rg P r) k k = sd (rg P r) k from if_neg (by omega)] at hsk
            obtain ⟨d0, d1, d2, d3, d4, d5, d6⟩ := id hsk
            have HSK := Lib.hid hsk
            have f2 := ho.frozen (o := k * 7 + 2)
            have f3 := ho.frozen (o := k * 7 + 3)
            have f6 := ho.frozen (o := k * 7 + 6)
            have HOI := Lib.hid ho
            have HSM := Lib.hid hsm
            clear hsk ho hsm
            cases hgb : (sd (rg P r) k).gable
            · rw [hgb] at d4
              have HGB := Lib.hid hgb
              clear hgb
              go_wp2_with fail
              go_roundw
              case rel =>
                refine ⟨k + 1, by omega, by go_num, HSM.out.trans (sameBut_set3 _ _ _ _ _ _ _ _), ((HOI.out.set).set).set, Lib.hid (fun j hj => ?_)⟩
                by_cases hjk : j = k
                · subst hjk
                  rw [show ringTo rs (rg P r) (j + 1) j = modS rs (sd (rg P r) j) from if_pos (by omega)]
                  exact HSK.out.set3 HGB.out
                · have h1 := (hsd.out j hj).out3 (k := k) (u := .int .i64 rs) (v := .int .i64 1) (x := .int .i64 3) hjk
                  rwa [show ringTo rs (rg P r) (k + 1) j = ringTo rs (rg P r) k j by unfold ringTo; by_cases h : j < k <;> simp [h] <;> omega]
              case measure => simp [intOf]; omega
            · rw [hgb] at d4
              have HGB := Lib.hid hgb
              clear hgb f2 f3 f6
              go_wp2_with fail
              go_roundw
              case rel =>
                refine ⟨k + 1, by omega, by go_num, HSM.out, HOI.out, Lib.hid (fun j hj => ?_)⟩
                by_cases hjk : j = k
                · subst hjk
                  rw [show ringTo rs (rg P r) (j + 1) j = modS rs (sd (rg P r) j) from if_pos (by omega), show modS rs (sd (rg P r) j) = sd (rg P r) j by unfold modS; rw [HGB.out]; rfl]
                  exact HSK.out
                · have h1 := hsd.out j hj
                  rwa [show ringTo rs (rg P r) (k + 1) j = ringTo rs (rg P r) k j by unfold ringTo; by_cases h : j < k <;> simp [h] <;> omega]
              case measure => simp [intOf]; omega
          · have e : k = (rg P r).length := by omega
            subst e
            obtain ⟨hbxi, hrowX, hnews, q3, key⟩ := KEY.out _ hsm ho hsd.out
            have q1 : r + 1 ≤ maxLen := by unfold maxLen; omega
            have q2 : (r + 1) * 24 ≤ 140737488355328 := by omega
            have cb := hbxi.cell
            have HRX := Lib.hid hrowX
            have HNW := Lib.hid hnews
            have KEY2 := Lib.hid key
            have Q1 := Lib.hid q1
            have Q2 := Lib.hid q2
            have Q3 := Lib.hid q3
            clear hrowX hnews key q1 q2 q3 hsm ho hsd hbxi KEY
            go_wp2_with (at_builtin; refine wpList_append_own_at _ rfl _ _ 22 rfl (w1.heap.size + 1) 62 iR (.slice none 0 0) 1 24 Tryz.underlying22 hi0 hz0 hz1 hz2 rfl (by decide) _ r vals rfl HRX.out ⟨wr.heap.size, 0, none⟩ 1 1 [.slice (some ⟨g, 0, none⟩) (rg P r).length capg] rfl rfl HNW.out (by intro u hu; simp at hu; subst hu; rfl) Q1.out Q2.out Q3.out ?_; intro v' w3 hown' hgrow3 hnil3 hob3; have HA := Lib.hid (KEY2.out v' w3 hown' hgrow3); have cb3 := HA.out.box.cell; have fb3 := HA.out.box.frozen; obtain ⟨sa2, sc2, rfl, _⟩ := row_shape hown'; clear hown' hgrow3 hnil3 hob3)
            go_roundw
            case rel =>
              obtain ⟨y1, y2, y3, y4⟩ := HA.out.store
              exact ⟨r + 1, sa2, sc2, _, by omega, by go_num, y1, y2, y3, y4⟩
            case measure => simp [intOf]; omega
      · have e : r = P.length := by omega
        subst e
        have cb := hbx.cell
        have k2 := keep hB k1
        have HPM := Lib.hid (hT.plan hrow)
        have ho1 := outlets_ok P (.slice (some ⟨br, offr, none⟩) P.length cap) wr r0 i0 i n (HG.out.below hbr) (HV.out.below hbr) HVAL.out HS.out.hr HS.out.hi0 HS.out.at_ HS.out.gab n1 (by omega) (by rw [HS.out.lo_, HS.out.hi_, HNP.out]; omega)
        rw [HS.out.lo_, HS.out.hi_, HNP.out] at ho1
        have HO1 := Lib.hid ho1
        clear hbx hrow hT ho1
        go_wp2_with fail
        refine HO1.out.mono ?_
        rintro e w4 ⟨v4, rfl, hr4, hB4⟩
        have S4 := isStrs_row hr4
        obtain ⟨b4, o4, sc4, rfl, _⟩ := mids_row hr4 hp2
        have HS4 := Lib.hid S4
        have cb4 := keep hB4 cb
        have hb4 : Below w.heap.size w w4 := below_trans' hbr hB4
        have hsm := HS.out.mod (rs := rs)
        have ho2 := outlets_ok (modP rs P) (.slice sa P.length sc) w4 r0 i0 i n (HG.out.below hb4) (HPM.out.below hB4) (valid_modP HVAL.out r1 r2) hsm.hr hsm.hi0 hsm.at_ hsm.gab n1 (by omega) (by rw [hsm.lo_, hsm.hi_, HNP.out]; omega)
        rw [hsm.lo_, hsm.hi_, HNP.out] at ho2
        have HO2 := Lib.hid ho2
        clear hr4 S4 hB4 cb k2 hsm ho2 HO1 hB hbr
        go_wp2_with fail
        refine HO2.out.mono ?_
        rintro e w5 ⟨v5, rfl, hr5, hB5⟩
        have S5 := isStrs_row hr5
        obtain ⟨b5, o5, sc5, rfl, _⟩ := mids_row hr5 hp2
        have HS5 := Lib.hid S5
        have HS4' := Lib.hid (HS4.out.below hB5)
        have hb5 : Below w.heap.size w w5 := below_trans' hb4 hB5
        have hn0 : (0 : Int) < (np : Int) := by omega
        clear hr5 S5 hB5 cb4 HO2 hb4 HS4
        go_wp2_with fail
        refine (Equal_any _ _ _ _ _ HS4'.out HS5.out (by simp [mids_length]; omega)).mono ?_
        rintro e w6 ⟨rfl, hB6⟩
        have hb6 : Below w.heap.size w w6 := below_trans' hb5 hB6
        rw [decide_eq_true rfl]
        clear hB6 hb5
        go_wp2_with fail
        refine (awake50_ok _ (HG.out.below hb6)).mono ?_
        rintro e w7 ⟨rfl, hB7⟩
        have hb7 : Below w.heap.size w w7 := below_trans' hb6 hB7
        clear hB7 hb6
        go_wp2_with fail
        go_ret
        exact ⟨rfl, hb7⟩
end Go.Proofs.YtjpigaobeegbgaaGreatDoor
