/- The walk of kingpostlaw48.TilecountBegins. -/
import Derived.Test.YtjpigaobeegbgaaGreatDoorWLaw48a
namespace Go.Proofs.YtjpigaobeegbgaaGreatDoor
open Go.RowKit Go.Shelf
attribute [local go_sem ↓] Go.wp_at_zero Go.wp_at_succ
theorem run_max_ok3 {P : Program} (ts : Array TypeId) (t : TypeId) (w : World) : (Builtin.max_ ts t #[.int .i64 0, .int .i64 0, .int .i64 0]).run P w = .ok (.int .i64 0) w := by
  simp [Builtin.max_, Builtin.max2]
set_option maxHeartbeats 400000 in
theorem num_one (n : Int) (w : World) (hG : Glo w) (h0 : n.natAbs < 100000) :
    Calls Tryz.prog 20 #[.int .i64 n, .int .i64 1] w fun e w' => ∃ s : ByteArray, Hid (s = numS n) ∧ e = .returned (.string s) ∧ Below w.heap.size w w' := by
  have HO := fun w (hG : Glo w) => Of_one n w hG (by omega) (by omega)
  have HG := Lib.hid hG
  have HO' := Lib.hid HO
  clear HO hG h0
  go_enter Tryz.func20, Tryz.ntmps20
  go_wp2_with fail
  refine (HO'.out _ HG.out).mono ?_
  rintro e w1 ⟨r, hr, rfl, hB1⟩
  have HR := Lib.hid hr
  clear hr
  go_wp2_with fail
  go_ret
  exact ⟨r, Lib.hid (numS_of HR.out), rfl, hB1⟩
theorem Quart.even {sp : List (Rat × Rat)} {m n : Nat → Int} (h : Quart sp m n) {w : Int} (w1 : 1 ≤ w) (w2 : w ≤ 2000) : ∀ k (hk : k < sp.length) j, j < begins n w false k →
    ∃ hh : (offTo sp w false (begins n w false) k).length + j < (offTo sp w false (begins n w false) sp.length).length, (offTo sp w false (begins n w false) sp.length)[(offTo sp w false (begins n w false) k).length + j] = sp[k].1 + (j : Rat) * w ∧ Small (sp[k].1 + (j : Rat) * w) := by
  intro k hk j hj
  obtain ⟨h1, h2⟩ := offTo_get (wd := w) (odd := false) hk hk hj
  refine ⟨h1, h2, ?_⟩
  have := (h.stepsTo w1 w2 false k hk).sm j (by omega)
  exact this
theorem step_diff (lo wd : Rat) {j : Nat} (hj : 1 ≤ j) : (lo + (j : Rat) * wd) - (lo + ((j - 1 : Nat) : Rat) * wd) = wd := by
  obtain ⟨i, rfl⟩ : ∃ i, j = i + 1 := ⟨j - 1, by omega⟩
  rw [Nat.add_sub_cancel, Rat.natCast_add]
  have : ((1 : Nat) : Rat) = 1 := rfl
  rw [this]
  grind
theorem off_next {sp : List (Rat × Rat)} {w : Int} {Te : Nat → Nat} {k : Nat} (h : k < sp.length) : (offTo sp w false Te (k + 1)).length = (offTo sp w false Te k).length + Te k := by
  rw [offTo_succ _ _ _ _ h, List.length_append, ats_length]
theorem own_course (w : World) (p : Rat × Rat) : IsCourse (((w.alloc (.cells #[.string (numS p.1), .string (numS p.2)] 53)).alloc (.cells #[.string (numS p.1), .string (numS p.2)] 53)).alloc (.cells #[.string ⟨#[48]⟩, .string ⟨#[49]⟩, .slice (some ⟨w.heap.size + 1, 0, none⟩) 1 1] 45)) (.agg #[.string ⟨#[48]⟩, .string ⟨#[49]⟩, .slice (some ⟨w.heap.size + 1, 0, none⟩) 1 1]) 0 1 [p] := by
  refine ⟨_, _, _, rfl, text_0.symm, text_1.symm, _, _, rfl, by simp, fun _ => ⟨_, _, rfl, by simp, fun k hk => ?_⟩⟩
  obtain rfl : k = 0 := by simp at hk; omega
  exact ⟨numS p.1, numS p.2, by simp [go_sem], by simp [go_sem], rfl, rfl⟩
theorem isStrs_form {w : World} {v : Value} {l : List ByteArray} (h : IsStrs w v l) (hn : 0 < l.length) : ∃ b off cap, v = .slice (some ⟨b, off, none⟩) l.length cap ∧ ∀ k (h : k < l.length), w.cell? ⟨b, off + k, none⟩ = some (.string l[k]) := by
  obtain ⟨a, cap, rfl, hc⟩ := h
  obtain ⟨b, off, rfl, hc'⟩ := hc (fun h => by rw [h] at hn; simp at hn)
  exact ⟨b, off, cap, rfl, hc'⟩
set_option maxRecDepth 100000 in
set_option maxHeartbeats 12800000 in
theorem beginsLaw (a x : Int) (l : List Int) (v : Value) (w : World) (hG : Glo w) (hv : IsBytes w v l) (hl : Bytes l) (a1 : -32768 ≤ a) (a2 : a ≤ 32767) (x1 : 0 ≤ x) (x2 : x ≤ 255) :
    Calls Tryz.prog 5 #[.int .i16 a, v, .int .u8 x] w (RetB (.bool true) w) := by
  have HG := Lib.hid hG
  have HV := Lib.hid hv
  obtain ⟨ad, cap, rfl, hcells⟩ := hv
  clear hcells
  by_cases h5 : l.length ≤ 5
  · have h5' : decide ((5 : Int) < (l.length : Int)) = false := by simp; omega
    obtain ⟨m, wd, hm, hwd, wd1, wd2, hm2, hx⟩ := width_of x1 x2
    have hq := spanQ_quart (a := a) h5 hl a1 a2
    have hlen := spanQ_length a l
    have HSP := Lib.hid (fun (w : World) (hG : Glo w) (hv : IsBytes w (.slice ad l.length cap) l) => spans_ok a l _ w hG hv h5 hl a1 a2)
    obtain ⟨sp, hsp⟩ : ∃ sp, spanQ a l = sp := ⟨_, rfl⟩
    rw [hsp] at hq hlen HSP
    have hpl := hq.plain wd1 (by omega)
    have hev := hq.even wd1 (by omega)
    have HQ := Lib.hid hq
    obtain ⟨Te, hTe⟩ : ∃ Te, begins (nAt l) wd false = Te := ⟨_, rfl⟩
    obtain ⟨To, hTo⟩ : ∃ To, begins (nAt l) wd true = To := ⟨_, rfl⟩
    have hse := hq.stepsTo wd1 (by omega) false
    have hso := hq.stepsTo wd1 (by omega) true
    have hme := hq.offMax' wd1 false
    have hmo := hq.offMax' wd1 true
    rw [hTe] at hse hme hpl hev
    rw [hTo] at hso hmo hpl
    have HSE := Lib.hid hse
    have HSO := Lib.hid hso
    have HME := Lib.hid hme
    have HMO := Lib.hid hmo
    have HEV := Lib.hid hev
    obtain ⟨E, hE⟩ : ∃ E, offTo sp wd false Te sp.length = E := ⟨_, rfl⟩
    obtain ⟨O, hO⟩ : ∃ O, offTo sp wd true To sp.length = O := ⟨_, rfl⟩
    rw [hE, hO] at hpl
    obtain ⟨p1, p2, p3, p4, p5⟩ := hpl
    have HP5 := Lib.hid p5
    have HE := Lib.hid hE
    have HO := Lib.hid hO
    obtain ⟨F, hF⟩ : ∃ F, fullTo sp wd sp.length = F := ⟨_, rfl⟩
    obtain ⟨C, hC⟩ : ∃ C, cutTo sp wd sp.length = C := ⟨_, rfl⟩
    rw [hF, hC] at p1
    have HF := Lib.hid hF
    have HC := Lib.hid hC
    have hmx := @run_max_ok3 Tryz.prog
    have k1 : IntKind.i64.wrap (F + C) = F + C := IntWalk.i64_in _ (by omega)
    have HLEN := Lib.hid hlen
    rw [hlen] at p3
    clear hG hq hsp hl hse hso hme hmo hev p5 hE hO hF hC hTe hTo hlen
    go_enter Tryz.func5, Tryz.ntmps5
    go_wp2_with fail
    refine (HSP.out _ (HG.out.below (by repeat (first | (with_reducible first | exact Below.refl _ _ | refine Below.setCell ?_ ?_ _ | refine below_drewN ?_ _ | refine Below.drew ?_ | refine below_alloc ?_ _ | refine below_trans'' (by assumption) ?_) | exact Nat.le_refl _ | (focus (simp; done)) | (focus (simp; omega)) | omega))) (HV.out.below (by repeat (first | (with_reducible first | exact Below.refl _ _ | refine Below.setCell ?_ ?_ _ | refine below_drewN ?_ _ | refine Below.drew ?_ | refine below_alloc ?_ _ | refine below_trans'' (by assumption) ?_) | exact Nat.le_refl _ | (focus (simp; done)) | (focus (simp; omega)) | omega)))).mono ?_
    rintro e w1 ⟨c, rfl, hco, hB1⟩
    have hb1 : Below w.heap.size w w1 := (by repeat (first | (with_reducible first | exact Below.refl _ _ | refine Below.setCell ?_ ?_ _ | refine below_drewN ?_ _ | refine Below.drew ?_ | refine below_alloc ?_ _ | refine below_trans'' (by assumption) ?_) | exact Nat.le_refl _ | (focus (simp; done)) | (focus (simp; omega)) | omega))
    obtain ⟨s, t, vs, rfl, hs, ht, hvs⟩ := id hco
    have HCO := Lib.hid hco
    have HVS := Lib.hid hvs
    obtain ⟨os', oscap, rfl⟩ : ∃ oa oc, vs = .slice oa l.length oc := by
      obtain ⟨a, cap, h, _⟩ := hvs
      exact ⟨a, cap, by rw [h, HLEN.out]⟩
    clear hs ht hco hB1 hvs
    go_wp2_with fail
    refine (Course_ok _ wd _ ?_ ?_ HQ.out.good (HQ.out.steps wd1 (by omega)) wd1 (by omega)).mono ?_
    · exact HG.out.below (by repeat (first | (with_reducible first | exact Below.refl _ _ | refine Below.setCell ?_ ?_ _ | refine below_drewN ?_ _ | refine Below.drew ?_ | refine below_alloc ?_ _ | refine below_trans'' (by assumption) ?_) | exact Nat.le_refl _ | (focus (simp; done)) | (focus (simp; omega)) | omega))
    · exact HCO.out.below (by repeat (first | (with_reducible first | exact Below.refl _ _ | refine Below.setCell ?_ ?_ _ | refine below_drewN ?_ _ | refine Below.drew ?_ | refine below_alloc ?_ _ | refine below_trans'' (by assumption) ?_) | exact Nat.le_refl _ | (focus (simp; done)) | (focus (simp; omega)) | omega))
    rintro e w2 ⟨rfl, hB2⟩
    rw [HF.out, HC.out]
    have hb2 : Below w.heap.size w w2 := (by repeat (first | (with_reducible first | exact Below.refl _ _ | refine Below.setCell ?_ ?_ _ | refine below_drewN ?_ _ | refine Below.drew ?_ | refine below_alloc ?_ _ | refine below_trans'' (by assumption) ?_) | exact Nat.le_refl _ | (focus (simp; done)) | (focus (simp; omega)) | omega))
    have hb12 : Below w1.heap.size w1 w2 := below_trans' (below_alloc (Below.refl _ _) _) hB2
    have c0 : w2.cell? ⟨w1.heap.size, 0, none⟩ = some (.string s) := keep hB2 (by simp [go_sem])
    have c1 : w2.cell? ⟨w1.heap.size, 1, none⟩ = some (.string t) := keep hB2 (by simp [go_sem])
    have c2 : w2.cell? ⟨w1.heap.size, 2, none⟩ = some (.slice os' l.length oscap) := keep hB2 (by simp [go_sem])
    clear hB2 hb1
    go_wp2_with fail
    refine (Offsets_ok _ wd false _ ?_ ?_ HQ.out.good wd1 (by omega) Te HSE.out HME.out).mono ?_
    · exact HG.out.below hb2
    · exact HCO.out.below hb12
    rintro e w3 ⟨v3, rfl, hr3, hn3, hB3⟩
    rw [HE.out] at hr3 hn3
    have hb3 : Below w.heap.size w w3 := below_trans' hb2 hB3
    have hb13 : Below w1.heap.size w1 w3 := below_trans' hb12 hB3
    have d0 := keep hB3 c0
    have d1 := keep hB3 c1
    have d2 := keep hB3 c2
    have HS3 := Lib.hid (isStrs_row hr3)
    clear hB3 hb2 c0 c1 c2 hr3 hn3 hb12
    go_wp2_with fail
    refine (Offsets_ok _ wd true _ ?_ ?_ HQ.out.good wd1 (by omega) To HSO.out HMO.out).mono ?_
    · exact HG.out.below hb3
    · exact HCO.out.below hb13
    rintro e w4 ⟨v4, rfl, hr4, hn4, hB4⟩
    rw [HO.out] at hr4 hn4
    have hb4 : Below w.heap.size w w4 := below_trans' hb3 hB4
    have hb14 : Below w1.heap.size w1 w4 := below_trans' hb13 hB4
    have c2 := keep hB4 d2
    have HS4 := Lib.hid (HS3.out.below hB4)
    obtain ⟨oo, od, rfl⟩ : ∃ oa oc, v4 = .slice oa O.length oc := by
      obtain ⟨a, cap, h, _⟩ := isStrs_row hr4
      exact ⟨a, cap, by rw [h]; simp⟩
    obtain ⟨oe, oc, rfl⟩ : ∃ oa oc, v3 = .slice oa E.length oc := by
      obtain ⟨a, cap, h, _⟩ := HS4.out
      exact ⟨a, cap, by rw [h]; simp⟩
    have HVS4 := Lib.hid (HVS.out.below hb14)
    clear hB4 hb3 d0 d1 d2 hr4 hn4 HS3 hb13 HVS
    have g1 : ((E.length : Int) == F + C) = true := by rw [p1]; simp
    have g2 : ¬ ((O.length : Int) < (E.length : Int)) := by omega
    have g3 : IntKind.i64.wrap ((E.length : Int) + (l.length : Int)) = (E.length : Int) + (l.length : Int) := IntWalk.i64_in _ (by omega)
    have g4 : ¬ ((E.length : Int) + (l.length : Int) < (O.length : Int)) := by omega
    have HG4 := Lib.hid (HG.out.below hb4)
    have g5 : (E.length : Int) = F + C := p1
    go_wp2_with fail
    have P1 := Lib.hid p1
    clear p1 g1 g5
    go_loopw [16, 93] (fun sm i wr => ∃ k : Nat, k ≤ l.length ∧ i = .int .i64 k ∧ (∃ S : Nat, sm = .int .i64 S ∧ Hid (S = (offTo sp wd false Te k).length)) ∧ Below w4.heap.size w4 wr) (fun _ i _ => l.length - (intOf i).toNat)
    case atStart => exact ⟨0, by omega, rfl, ⟨0, rfl, Lib.hid rfl⟩, Below.refl _ _⟩
    case round =>
      obtain ⟨k, hk, rfl, ⟨sumk, rfl, hsum⟩, hBr⟩ := hrel
      by_cases hkn : k = l.length
      · have hse : (sumk : Int) = (E.length : Int) := by
          have := hsum.out
          rw [hkn, ← HLEN.out, HE.out] at this
          omega
        have hkk : ((k : Int) < (l.length : Int)) = False := by simp; omega
        have hbr : Below w.heap.size w wr := below_trans' hb4 hBr
        subst hkn
        clear hsum hk
        go_wp2_with fail
        refine (awake_ok _ (HG.out.below hbr)).mono ?_
        rintro e w5 ⟨rfl, hB5⟩
        have hb5 : Below w.heap.size w w5 := below_trans' hbr hB5
        clear hB5
        go_wp2_with fail
        go_ret
        exact ⟨rfl, hb5⟩
      · have hk1 : k < l.length := by omega
        have hks : k < sp.length := by rw [HLEN.out]; exact hk1
        obtain ⟨a', cap', hsl, hcap', hcs⟩ := HVS4.out
        obtain ⟨b, off, hsb, hbb, hcc⟩ := hcs (fun h => by rw [h] at hks; simp at hks)
        obtain ⟨u, t', e0, e1, hu, hv'⟩ := hcc k hks
        obtain rfl := numS_of hu
        obtain rfl := numS_of hv'
        obtain rfl : os' = some ⟨b, off, none⟩ := by
          simp only [Value.slice.injEq] at hsl
          rw [hsl.1, hsb]
        have q0 := keep hBr e0
        have q1 := keep hBr e1
        have hQ1 := HQ.out.one hks
        have HQ1 := Lib.hid hQ1
        have HST1 := Lib.hid (single_steps (HSO.out k hks))
        have hE1 := HEV.out k hks
        obtain ⟨Tk, hTk⟩ : ∃ Tk, Te k = Tk := ⟨_, rfl⟩
        obtain ⟨Nk, hNk⟩ : ∃ Nk, To k = Nk := ⟨_, rfl⟩
        have hR := HP5.out k hks
        have hnext := off_next (w := wd) (Te := Te) hks
        have hle := HME.out (k + 1) (by omega)
        have hlt0 := HEV.out k hks 0 (by have := hR.2.2.2.2.2.1; omega)
        rw [← hsum.out] at hnext hE1 hlt0
        simp only [HE.out] at hE1 hlt0
        rw [hTk] at hR hnext hE1
        rw [hNk] at hR HST1
        generalize sp[k] = pr at *
        obtain ⟨lo, hi⟩ := pr
        obtain ⟨F1, hF1⟩ : ∃ F1, fullTo [(lo, hi)] wd 1 = F1 := ⟨_, rfl⟩
        obtain ⟨C1, hC1⟩ : ∃ C1, cutTo [(lo, hi)] wd 1 = C1 := ⟨_, rfl⟩
        rw [hF1, hC1] at hR
        obtain ⟨r1, r2, r3, r4, r5, r6, r7, r8, r9⟩ := hR
        have HF1 := Lib.hid hF1
        have HC1 := Lib.hid hC1
        have HE1 := Lib.hid hE1
        have hlt1 := hlt0.1
        rw [Nat.add_zero] at hlt1
        have HNX := Lib.hid hnext
        obtain ⟨eb, eo, ec, hes, hec⟩ := isStrs_form HS4.out (by rw [List.length_map]; omega)
        obtain rfl : oe = some ⟨eb, eo, none⟩ := by
          simp only [Value.slice.injEq] at hes
          exact hes.1
        have HEC := Lib.hid (fun (W : World) (hB : Below w4.heap.size w4 W) (j : Nat) (hj : j < Tk) => (show ∃ h : sumk + j < E.length, W.cell? ⟨eb, eo + (sumk + j), none⟩ = some (.string (numS (lo + (j : Rat) * wd))) ∧ Small (lo + (j : Rat) * wd) from by
          obtain ⟨h1, h2, h3⟩ := hE1 j hj
          refine ⟨h1, ?_, h3⟩
          rw [← h2]
          have := keep hB (hec (sumk + j) (by rw [List.length_map]; exact h1))
          rw [List.getElem_map] at this
          exact this))
        have hi1 : (k : Int) < (l.length : Int) := by omega
        clear hTk hNk hsum hnext hle hlt0 hE1 hF1 hC1 hes hec e0 e1 hcc hsl hcs hcap' hsb
        go_wp2_with fail
        refine (Course_ok _ wd _ ?_ (own_course wr (lo, hi)) HQ1.out.good (HQ1.out.steps wd1 (by omega)) wd1 (by omega)).mono ?_
        · exact HG4.out.below (below_alloc (below_alloc (below_alloc hBr _) _) _)
        rintro e w5 ⟨rfl, hB5⟩
        rw [show [(lo, hi)].length = 1 from rfl, HF1.out, HC1.out]
        have hA5 : Below wr.heap.size wr w5 := (by repeat (first | (with_reducible first | exact Below.refl _ _ | refine Below.setCell ?_ ?_ _ | refine below_drewN ?_ _ | refine Below.drew ?_ | refine below_alloc ?_ _ | refine below_trans'' (by assumption) ?_) | exact Nat.le_refl _ | (focus (simp; done)) | (focus (simp; omega)) | omega))
        have hb5 : Below w4.heap.size w4 w5 := below_trans' hBr hA5
        have hOC := (own_course wr (lo, hi)).below hB5
        have l0 : w5.cell? ⟨wr.heap.size, 0, none⟩ = some (.string (numS lo)) := keep hB5 (by simp [go_sem])
        have o0 : w5.cell? ⟨wr.heap.size + 1 + 1, 0, none⟩ = some (.string ⟨#[48]⟩) := keep hB5 (by simp [go_sem])
        have o1 : w5.cell? ⟨wr.heap.size + 1 + 1, 1, none⟩ = some (.string ⟨#[49]⟩) := keep hB5 (by simp [go_sem])
        have o2 : w5.cell? ⟨wr.heap.size + 1 + 1, 2, none⟩ = some (.slice (some ⟨wr.heap.size + 1, 0, none⟩) 1 1) := keep hB5 (by simp [go_sem])
        have HOC := Lib.hid hOC
        have t1 : IntKind.i64.wrap (F1 + C1) = F1 + C1 := IntWalk.i64_in _ (by omega)
        clear hB5 hA5 hOC
        go_wp2_with fail
        refine (Offsets_ok _ wd true _ ?_ HOC.out HQ1.out.good wd1 (by omega) (fun _ => Nk) HST1.out ?_).mono ?_
        · exact HG4.out.below hb5
        · intro j hj
          have : j = 0 ∨ j = 1 := by simp at hj; omega
          rcases this with rfl | rfl
          · simp [offTo_zero]
          · rw [offTo_single, ats_length]; omega
        rintro e w6 ⟨v6, rfl, hr6, hn6, hB6⟩
        have hb6 : Below w4.heap.size w4 w6 := below_trans' hb5 hB6
        have l1 := keep hB6 l0
        rw [show [(lo, hi)].length = 1 from rfl, offTo_single] at hr6
        obtain ⟨fb, fo, fc, rfl, hfc⟩ := isStrs_form (isStrs_row hr6) (by rw [List.length_map, ats_length]; omega)
        have hf0 : w6.cell? ⟨fb, fo, none⟩ = some (.string (numS (lo - (wd : Rat) / 2))) := by
          have := hfc 0 (by rw [List.length_map, ats_length]; omega)
          rw [List.getElem_map] at this
          rw [show fo + 0 = fo from rfl] at this
          rw [this]
          congr 3
          simp only [ats, firstAt, List.getElem_map, List.getElem_range, if_true]
          have : ((0 : Nat) : Rat) = 0 := rfl
          rw [this]; grind
        rw [List.length_map, ats_length]
        obtain ⟨hE0, hEc0, hS0⟩ := HEC.out w6 hb6 0 (by omega)
        rw [Nat.add_zero] at hEc0
        have hz0 : lo + ((0 : Nat) : Rat) * (wd : Rat) = lo := by
          have : ((0 : Nat) : Rat) = 0 := rfl
          rw [this]; grind
        rw [hz0] at hEc0 hS0
        have HS0 := Lib.hid hS0
        have n1 : ¬ ((Nk : Int) = 0) := by omega
        have n2 : F1 + C1 = (Tk : Int) := r1
        have n3 : ¬ ((Tk : Int) = 0) := by omega
        have n4 : (sumk : Int) < (E.length : Int) := by omega
        have n5 : ¬ ((E.length : Int) ≤ (sumk : Int)) := by omega
        have n1b : ((Nk : Int) == 0) = false := by simp; omega
        have n2b : (F1 + C1 == 0) = false := by simp; omega
        have n3b : ((Tk : Int) == 0) = false := by simp; omega
        have n5b : decide ((E.length : Int) ≤ (sumk : Int)) = false := by simp; omega
        have n6 : (0 : Int) < (Nk : Int) := by omega
        have n5d : decide (E.length ≤ sumk) = false := by simp; omega
        have u1 : IntKind.i64.wrap ((sumk : Int) + F1) = (sumk : Int) + F1 := IntWalk.i64_in _ (by omega)
        have u2 : IntKind.i64.wrap ((sumk : Int) + F1 + C1) = (sumk : Int) + F1 + C1 := IntWalk.i64_in _ (by omega)
        have u3 : IntKind.i64.wrap ((sumk : Int) + 1) = (sumk : Int) + 1 := IntWalk.i64_in _ (by omega)
        have u4 : IntKind.i64.wrap ((sumk : Int) + (F1 + C1)) = (sumk : Int) + (F1 + C1) := IntWalk.i64_in _ (by omega)
        have R1 := Lib.hid r1
        clear r1 n2
        clear hB6 l0 o0 o1 o2 hr6 hn6 hfc HOC hE0 hS0 hz0 hb5
        go_wp2_with fail
        have hS : w6.drew.cell? ⟨eb, eo + sumk, none⟩ = some (.string (numS lo)) ∧ w6.drew.cell? ⟨wr.heap.size, 0, none⟩ = some (.string (numS lo)) ∧ Below w4.heap.size w4 w6.drew := ⟨hEc0, l1, hb6.drew⟩
        refine region_held_abs (S := (fun w' => w'.cell? ⟨eb, eo + sumk, none⟩ = some (.string (numS lo)) ∧ w'.cell? ⟨wr.heap.size, 0, none⟩ = some (.string (numS lo)) ∧ Below w4.heap.size w4 w')) 32 #[false, false, false, false, false, false, false, false, false, false, false, false, false, false, false, false, false, false, false, false, false, false, false, false, false, false, false, false, false, false, false, false] (by kernel_rfl) (by kernel_rfl) (by kernel_rfl) (fun _ _ _ _ _ h => h) hS (fun Q' hQ' hN hHeld => ?_)
        refine takeT 113 (i := 0) (v := ?_) hQ' hHeld rfl (by kernel_rfl) (by kernel_rfl) (by kernel_rfl) (by kernel_rfl) (by kernel_rfl) ?_ ?_; rotate_left; (focus (intro w hSw; (try dsimp only at hSw); go_simp; (try with_reducible rfl))); (try simp only [Act.put, List.setIfInBounds_toArray, List.set_cons_zero, List.set_cons_succ])
        refine takeT 114 (i := 1) (v := ?_) hQ' hHeld rfl (by kernel_rfl) (by kernel_rfl) (by kernel_rfl) (by kernel_rfl) (by kernel_rfl) ?_ ?_; rotate_left; (focus (intro w hSw; (try dsimp only at hSw); go_simp; (try with_reducible rfl))); (try simp only [Act.put, List.setIfInBounds_toArray, List.set_cons_zero, List.set_cons_succ])
        refine takeT 115 (i := 2) (v := ?_) hQ' hHeld rfl (by kernel_rfl) (by kernel_rfl) (by kernel_rfl) (by kernel_rfl) (by kernel_rfl) ?_ ?_; rotate_left; (focus (intro w hSw; (try dsimp only at hSw); go_simp; (try with_reducible rfl))); (try simp only [Act.put, List.setIfInBounds_toArray, List.set_cons_zero, List.set_cons_succ])
        refine takeT 116 (i := 3) (v := ?_) hQ' hHeld rfl (by kernel_rfl) (by kernel_rfl) (by kernel_rfl) (by kernel_rfl) (by kernel_rfl) ?_ ?_; rotate_left; (focus (intro w hSw; (try dsimp only at hSw); go_simp; (try with_reducible rfl))); (try simp only [Act.put, List.setIfInBounds_toArray, List.set_cons_zero, List.set_cons_succ])
        refine takeT 117 (i := 4) (v := ?_) hQ' hHeld rfl (by kernel_rfl) (by kernel_rfl) (by kernel_rfl) (by kernel_rfl) (by kernel_rfl) ?_ ?_; rotate_left; (focus (intro w hSw; (try dsimp only at hSw); go_simp; (try with_reducible rfl))); (try simp only [Act.put, List.setIfInBounds_toArray, List.set_cons_zero, List.set_cons_succ])
        refine takeT 118 (i := 5) (v := ?_) hQ' hHeld rfl (by kernel_rfl) (by kernel_rfl) (by kernel_rfl) (by kernel_rfl) (by kernel_rfl) ?_ ?_; rotate_left; (focus (intro w hSw; (try dsimp only at hSw); go_simp; (try with_reducible rfl))); (try simp only [Act.put, List.setIfInBounds_toArray, List.set_cons_zero, List.set_cons_succ])
        refine takeT 119 (i := 6) (v := ?_) hQ' hHeld rfl (by kernel_rfl) (by kernel_rfl) (by kernel_rfl) (by kernel_rfl) (by kernel_rfl) ?_ ?_; rotate_left; (focus (intro w hSw; (try dsimp only at hSw); go_simp; (try with_reducible rfl))); (try simp only [Act.put, List.setIfInBounds_toArray, List.set_cons_zero, List.set_cons_succ])
        refine takeT 120 (i := 7) (v := ?_) hQ' hHeld rfl (by kernel_rfl) (by kernel_rfl) (by kernel_rfl) (by kernel_rfl) (by kernel_rfl) ?_ ?_; rotate_left; (focus (intro w hSw; (try dsimp only at hSw); go_simp; (try with_reducible rfl))); (try simp only [Act.put, List.setIfInBounds_toArray, List.set_cons_zero, List.set_cons_succ])
        refine takeT 121 (i := 8) (v := ?_) hQ' hHeld rfl (by kernel_rfl) (by kernel_rfl) (by kernel_rfl) (by kernel_rfl) (by kernel_rfl) ?_ ?_; rotate_left; (focus (intro w hSw; (try dsimp only at hSw); go_simp; (try with_reducible rfl))); (try simp only [Act.put, List.setIfInBounds_toArray, List.set_cons_zero, List.set_cons_succ])
        refine takeT 122 (i := 9) (v := ?_) hQ' hHeld rfl (by kernel_rfl) (by kernel_rfl) (by kernel_rfl) (by kernel_rfl) (by kernel_rfl) ?_ ?_; rotate_left; (focus (intro w hSw; (try dsimp only at hSw); go_simp; (try with_reducible rfl))); (try simp only [Act.put, List.setIfInBounds_toArray, List.set_cons_zero, List.set_cons_succ])
        refine takeT 123 (i := 10) (v := ?_) hQ' hHeld rfl (by kernel_rfl) (by kernel_rfl) (by kernel_rfl) (by kernel_rfl) (by kernel_rfl) ?_ ?_; rotate_left; (focus (intro w hSw; (try dsimp only at hSw); go_simp; (try with_reducible rfl))); (try simp only [Act.put, List.setIfInBounds_toArray, List.set_cons_zero, List.set_cons_succ])
        refine takeT 124 (i := 11) (v := ?_) hQ' hHeld rfl (by kernel_rfl) (by kernel_rfl) (by kernel_rfl) (by kernel_rfl) (by kernel_rfl) ?_ ?_; rotate_left; (focus (intro w hSw; (try dsimp only at hSw); go_simp; (try with_reducible rfl))); (try simp only [Act.put, List.setIfInBounds_toArray, List.set_cons_zero, List.set_cons_succ])
        refine takeT 125 (i := 12) (v := ?_) hQ' hHeld rfl (by kernel_rfl) (by kernel_rfl) (by kernel_rfl) (by kernel_rfl) (by kernel_rfl) ?_ ?_; rotate_left; (focus (intro w hSw; (try dsimp only at hSw); go_simp; (try with_reducible rfl))); (try simp only [Act.put, List.setIfInBounds_toArray, List.set_cons_zero, List.set_cons_succ])
        refine takeT 126 (i := 13) (v := ?_) hQ' hHeld rfl (by kernel_rfl) (by kernel_rfl) (by kernel_rfl) (by kernel_rfl) (by kernel_rfl) ?_ ?_; rotate_left; (focus (intro w hSw; (try dsimp only at hSw); go_simp; (try with_reducible rfl))); (try simp only [Act.put, List.setIfInBounds_toArray, List.set_cons_zero, List.set_cons_succ])
        refine takeT 127 (i := 14) (v := ?_) hQ' hHeld rfl (by kernel_rfl) (by kernel_rfl) (by kernel_rfl) (by kernel_rfl) (by kernel_rfl) ?_ ?_; rotate_left; (focus (intro w hSw; (try dsimp only at hSw); go_simp; (try with_reducible rfl))); (try simp only [Act.put, List.setIfInBounds_toArray, List.set_cons_zero, List.set_cons_succ])
        refine takeT 128 (i := 15) (v := ?_) hQ' hHeld rfl (by kernel_rfl) (by kernel_rfl) (by kernel_rfl) (by kernel_rfl) (by kernel_rfl) ?_ ?_; rotate_left; (focus (intro w hSw; (try dsimp only at hSw); go_simp; (try with_reducible rfl))); (try simp only [Act.put, List.setIfInBounds_toArray, List.set_cons_zero, List.set_cons_succ])
        refine takeT 129 (i := 16) (v := ?_) hQ' hHeld rfl (by kernel_rfl) (by kernel_rfl) (by kernel_rfl) (by kernel_rfl) (by kernel_rfl) ?_ ?_; rotate_left; (focus (intro w hSw; (try dsimp only at hSw); go_simp; (try with_reducible rfl))); (try simp only [Act.put, List.setIfInBounds_toArray, List.set_cons_zero, List.set_cons_succ])
        refine takeT 130 (i := 17) (v := ?_) hQ' hHeld rfl (by kernel_rfl) (by kernel_rfl) (by kernel_rfl) (by kernel_rfl) (by kernel_rfl) ?_ ?_; rotate_left; (focus (intro w hSw; (try dsimp only at hSw); go_simp; (try with_reducible rfl))); (try simp only [Act.put, List.setIfInBounds_toArray, List.set_cons_zero, List.set_cons_succ])
        refine takeT 131 (i := 18) (v := ?_) hQ' hHeld rfl (by kernel_rfl) (by kernel_rfl) (by kernel_rfl) (by kernel_rfl) (by kernel_rfl) ?_ ?_; rotate_left; (focus (intro w hSw; (try dsimp only at hSw); go_simp; (try with_reducible rfl))); (try simp only [Act.put, List.setIfInBounds_toArray, List.set_cons_zero, List.set_cons_succ])
        refine takeT 132 (i := 19) (v := ?_) hQ' hHeld rfl (by kernel_rfl) (by kernel_rfl) (by kernel_rfl) (by kernel_rfl) (by kernel_rfl) ?_ ?_; rotate_left; (focus (intro w hSw; (try dsimp only at hSw); go_simp; (try with_reducible rfl))); (try simp only [Act.put, List.setIfInBounds_toArray, List.set_cons_zero, List.set_cons_succ])
        refine takeT 133 (i := 20) (v := ?_) hQ' hHeld rfl (by kernel_rfl) (by kernel_rfl) (by kernel_rfl) (by kernel_rfl) (by kernel_rfl) ?_ ?_; rotate_left; (focus (intro w hSw; (try dsimp only at hSw); go_simp; (try with_reducible rfl))); (try simp only [Act.put, List.setIfInBounds_toArray, List.set_cons_zero, List.set_cons_succ])
        refine takeT 134 (i := 21) (v := ?_) hQ' hHeld rfl (by kernel_rfl) (by kernel_rfl) (by kernel_rfl) (by kernel_rfl) (by kernel_rfl) ?_ ?_; rotate_left; (focus (intro w hSw; (try dsimp only at hSw); go_simp; (try with_reducible rfl))); (try simp only [Act.put, List.setIfInBounds_toArray, List.set_cons_zero, List.set_cons_succ])
        refine takeT 135 (i := 22) (v := ?_) hQ' hHeld rfl (by kernel_rfl) (by kernel_rfl) (by kernel_rfl) (by kernel_rfl) (by kernel_rfl) ?_ ?_; rotate_left; (focus (intro w hSw; (try dsimp only at hSw); go_simp; (try with_reducible rfl))); (try simp only [Act.put, List.setIfInBounds_toArray, List.set_cons_zero, List.set_cons_succ])
        refine takeT 136 (i := 23) (v := ?_) hQ' hHeld rfl (by kernel_rfl) (by kernel_rfl) (by kernel_rfl) (by kernel_rfl) (by kernel_rfl) ?_ ?_; rotate_left; (focus (intro w hSw; (try dsimp only at hSw); go_simp; (try with_reducible rfl))); (try simp only [Act.put, List.setIfInBounds_toArray, List.set_cons_zero, List.set_cons_succ])
        refine takeT 137 (i := 24) (v := ?_) hQ' hHeld rfl (by kernel_rfl) (by kernel_rfl) (by kernel_rfl) (by kernel_rfl) (by kernel_rfl) ?_ ?_; rotate_left; (focus (intro w hSw; (try dsimp only at hSw); go_simp; (try with_reducible rfl))); (try simp only [Act.put, List.setIfInBounds_toArray, List.set_cons_zero, List.set_cons_succ])
        refine takeT 138 (i := 25) (v := ?_) hQ' hHeld rfl (by kernel_rfl) (by kernel_rfl) (by kernel_rfl) (by kernel_rfl) (by kernel_rfl) ?_ ?_; rotate_left; (focus (intro w hSw; (try dsimp only at hSw); go_simp; (try with_reducible rfl))); (try simp only [Act.put, List.setIfInBounds_toArray, List.set_cons_zero, List.set_cons_succ])
        refine takeT 139 (i := 26) (v := ?_) hQ' hHeld rfl (by kernel_rfl) (by kernel_rfl) (by kernel_rfl) (by kernel_rfl) (by kernel_rfl) ?_ ?_; rotate_left; (focus (intro w hSw; (try dsimp only at hSw); go_simp; (try with_reducible rfl))); (try simp only [Act.put, List.setIfInBounds_toArray, List.set_cons_zero, List.set_cons_succ])
        refine takeT 140 (i := 27) (v := ?_) hQ' hHeld rfl (by kernel_rfl) (by kernel_rfl) (by kernel_rfl) (by kernel_rfl) (by kernel_rfl) ?_ ?_; rotate_left; (focus (intro w hSw; (try dsimp only at hSw); go_simp; (try with_reducible rfl))); (try simp only [Act.put, List.setIfInBounds_toArray, List.set_cons_zero, List.set_cons_succ])
        refine takeT 141 (i := 28) (v := ?_) hQ' hHeld rfl (by kernel_rfl) (by kernel_rfl) (by kernel_rfl) (by kernel_rfl) (by kernel_rfl) ?_ ?_; rotate_left; (focus (intro w hSw; (try dsimp only at hSw); go_simp; (try with_reducible rfl))); (try simp only [Act.put, List.setIfInBounds_toArray, List.set_cons_zero, List.set_cons_succ])
        refine takeT 142 (i := 29) (v := ?_) hQ' hHeld rfl (by kernel_rfl) (by kernel_rfl) (by kernel_rfl) (by kernel_rfl) (by kernel_rfl) ?_ ?_; rotate_left; (focus (intro w hSw; (try dsimp only at hSw); go_simp; (try with_reducible rfl))); (try simp only [Act.put, List.setIfInBounds_toArray, List.set_cons_zero, List.set_cons_succ])
        refine takeT 143 (i := 30) (v := ?_) hQ' hHeld rfl (by kernel_rfl) (by kernel_rfl) (by kernel_rfl) (by kernel_rfl) (by kernel_rfl) ?_ ?_; rotate_left; (focus (intro w hSw; (try dsimp only at hSw); go_simp; (try with_reducible rfl))); (try simp only [Act.put, List.setIfInBounds_toArray, List.set_cons_zero, List.set_cons_succ])
        refine takeT 144 (i := 31) (v := ?_) hQ' hHeld rfl (by kernel_rfl) (by kernel_rfl) (by kernel_rfl) (by kernel_rfl) (by kernel_rfl) ?_ ?_; rotate_left; (focus (intro w hSw; (try dsimp only at hSw); go_simp; (try with_reducible rfl))); (try simp only [Act.put, List.setIfInBounds_toArray, List.set_cons_zero, List.set_cons_succ])
        refine wpAnyH_done (by kernel_rfl) ?_ _
        refine hN.out _ _ ?_
        clear hQ' hN Q'
        have l1 := hHeld.2.1
        have hf1 : w6.drew.cell? ⟨fb, fo, none⟩ = some (.string (numS (lo - (wd : Rat) / 2))) := hf0
        have hb7 := hHeld.2.2
        clear hHeld hS hb6 hf0 hEc0
        generalize w6.drew = w7 at *
        go_wp2_with fail
        have hS : w7.drew.cell? ⟨wr.heap.size, 0, none⟩ = some (.string (numS lo)) ∧ w7.drew.cell? ⟨fb, fo, none⟩ = some (.string (numS (lo - (wd : Rat) / 2))) ∧ Below w4.heap.size w4 w7.drew := ⟨l1, hf1, hb7.drew⟩
        have HH1 := Lib.hid (show lo - Rat.divInt wd 2 = lo - (wd : Rat) / 2 from by rw [← div_divInt]; rfl)
        have HH2 := Lib.hid (show Small (Rat.divInt wd 2) from small_divInt (by omega) (by omega) (by omega))
        refine region_held_abs (S := (fun w' => w'.cell? ⟨wr.heap.size, 0, none⟩ = some (.string (numS lo)) ∧ w'.cell? ⟨fb, fo, none⟩ = some (.string (numS (lo - (wd : Rat) / 2))) ∧ Below w4.heap.size w4 w')) 10 #[false, false, false, false, false, false, false, false, false, false] (by kernel_rfl) (by kernel_rfl) (by kernel_rfl) (fun _ _ _ _ _ h => h) hS (fun Q' hQ' hN hHeld => ?_)
        refine takeT 146 (i := 0) (v := ?_) hQ' hHeld rfl (by kernel_rfl) (by kernel_rfl) (by kernel_rfl) (by kernel_rfl) (by kernel_rfl) ?_ ?_; rotate_left; (focus (intro w hSw; (try dsimp only at hSw); go_simp; (try with_reducible rfl))); (try simp only [Act.put, List.setIfInBounds_toArray, List.set_cons_zero, List.set_cons_succ])
        refine takeT 147 (i := 1) (v := ?_) hQ' hHeld rfl (by kernel_rfl) (by kernel_rfl) (by kernel_rfl) (by kernel_rfl) (by kernel_rfl) ?_ ?_; rotate_left; (focus (intro w hSw; (try dsimp only at hSw); go_simp; (try with_reducible rfl))); (try simp only [Act.put, List.setIfInBounds_toArray, List.set_cons_zero, List.set_cons_succ])
        refine takeT 148 (i := 2) (v := ?_) hQ' hHeld rfl (by kernel_rfl) (by kernel_rfl) (by kernel_rfl) (by kernel_rfl) (by kernel_rfl) ?_ ?_; rotate_left; (focus (intro w hSw; (try dsimp only at hSw); go_simp; (try with_reducible rfl))); (try simp only [Act.put, List.setIfInBounds_toArray, List.set_cons_zero, List.set_cons_succ])
        refine wpAnyH_ready (rs := [3]) (by kernel_rfl) (by simp) ?_
        refine consW (i := 3) rfl (by kernel_rfl) (fun K hK => ?_)
        go_simp
        refine (num_any wd 2 _ (HG4.out.below hHeld.2.2) (by omega) (by omega) (by omega)).mono ?_
        rintro e w' ⟨r2, hr2, rfl, hBx⟩
        go_simp
        refine hK.out _ _ ?_ (fun hHeld => ?_)
        · exact keep2 hHeld hBx
        clear hK K
        (try simp only [Act.put, List.setIfInBounds_toArray, List.set_cons_zero, List.set_cons_succ])
        refine wpAnyH_ready (rs := [4]) (by kernel_rfl) (by simp) ?_
        refine consW (i := 4) rfl (by kernel_rfl) (fun K hK => ?_)
        go_simp
        refine (Sub_small (numS lo) r2 _ (HG4.out.below hHeld.2.2) rfl HS0.out (by rw [hr2.out]; rfl) HH2.out).mono ?_
        rintro e w' ⟨rb, hrb, rfl, hBx⟩
        have hrb' := numS_of hrb
        rw [HH1.out] at hrb'
        subst hrb'
        clear hrb
        go_simp
        refine hK.out _ _ ?_ (fun hHeld => ?_)
        · exact keep2 hHeld hBx
        clear hK K
        (try simp only [Act.put, List.setIfInBounds_toArray, List.set_cons_zero, List.set_cons_succ])
        refine takeT 145 (i := 5) (v := ?_) hQ' hHeld rfl (by kernel_rfl) (by kernel_rfl) (by kernel_rfl) (by kernel_rfl) (by kernel_rfl) ?_ ?_; rotate_left; (focus (intro w hSw; (try dsimp only at hSw); go_simp; (try with_reducible rfl))); (try simp only [Act.put, List.setIfInBounds_toArray, List.set_cons_zero, List.set_cons_succ])
        refine takeT 151 (i := 6) (v := ?_) hQ' hHeld rfl (by kernel_rfl) (by kernel_rfl) (by kernel_rfl) (by kernel_rfl) (by kernel_rfl) ?_ ?_; rotate_left; (focus (intro w hSw; (try dsimp only at hSw); go_simp; (try with_reducible rfl))); (try simp only [Act.put, List.setIfInBounds_toArray, List.set_cons_zero, List.set_cons_succ])
        refine takeT 152 (i := 7) (v := ?_) hQ' hHeld rfl (by kernel_rfl) (by kernel_rfl) (by kernel_rfl) (by kernel_rfl) (by kernel_rfl) ?_ ?_; rotate_left; (focus (intro w hSw; (try dsimp only at hSw); go_simp; (try with_reducible rfl))); (try simp only [Act.put, List.setIfInBounds_toArray, List.set_cons_zero, List.set_cons_succ])
        refine takeT 25 (i := 8) (v := ?_) hQ' hHeld rfl (by kernel_rfl) (by kernel_rfl) (by kernel_rfl) (by kernel_rfl) (by kernel_rfl) ?_ ?_; rotate_left; (focus (intro w hSw; (try dsimp only at hSw); go_simp; (try with_reducible rfl))); (try simp only [Act.put, List.setIfInBounds_toArray, List.set_cons_zero, List.set_cons_succ])
        refine takeT 26 (i := 9) (v := ?_) hQ' hHeld rfl (by kernel_rfl) (by kernel_rfl) (by kernel_rfl) (by kernel_rfl) (by kernel_rfl) ?_ ?_; rotate_left; (focus (intro w hSw; (try dsimp only at hSw); go_simp; (try with_reducible rfl))); (try simp only [Act.put, List.setIfInBounds_toArray, List.set_cons_zero, List.set_cons_succ])
        refine wpAnyH_done (by kernel_rfl) ?_ _
        refine hN.out _ _ ?_
        clear hQ' hN Q'
        have l1 := hHeld.1
        have hf1 := hHeld.2.1
        have hb8 := hHeld.2.2
        clear hHeld hS hb7
        go_wp2_with fail
        obtain ⟨wo, rfl⟩ : ∃ wo : World, wo = wr := ⟨_, rfl⟩
        go_loopw [27] (fun i wr => ∃ J : Nat, i = .int .i64 J ∧ Hid (sumk + 1 ≤ J ∧ J ≤ sumk + Tk) ∧ Below w4.heap.size w4 wr) (fun i _ => sumk + Tk - (intOf i).toNat)
        case atStart => exact ⟨sumk + 1, by go_num, Lib.hid ⟨by omega, by omega⟩, by first | exact hb8 | assumption⟩
        case round =>
          obtain ⟨J, rfl, hJ, hBj⟩ := hrel
          clear l1 hf1 hb8 q0 q1 hBr
          by_cases hJt : J = sumk + Tk
          · have z1 : ¬ ((J : Int) < (sumk : Int) + F1 + C1) := by have := R1.out; omega
            have z2 : decide ((J : Int) < (sumk : Int) + F1 + C1) = false := by simp; have := R1.out; omega
            clear hJt
            go_wp2_with fail
            go_roundw
            case rel => exact ⟨k + 1, by omega, by go_num, ⟨sumk + Tk, by first | (go_num; done) | exact congrArg (Value.int .i64) (by have := R1.out; omega), Lib.hid HNX.out.symm⟩, hBj⟩
            case measure => simp [intOf]; omega
          · have hJ1 : sumk + 1 ≤ J := hJ.out.1
            have hJ2 : J < sumk + Tk := by have := hJ.out.2; omega
            have z1 : (J : Int) < (sumk : Int) + F1 + C1 := by have := R1.out; omega
            obtain ⟨hb1', hc1', hs1'⟩ := HEC.out wr hBj (J - sumk) (by omega)
            obtain ⟨hb0', hc0', hs0'⟩ := HEC.out wr hBj (J - sumk - 1) (by omega)
            rw [show sumk + (J - sumk) = J by omega] at hc1' hb1'
            rw [show sumk + (J - sumk - 1) = J - 1 by omega] at hc0' hb0'
            have HS1 := Lib.hid hs1'
            have HSB := Lib.hid hs0'
            have HDF := Lib.hid (step_diff lo (wd : Rat) (j := J - sumk) (by omega))
            have hjE : (J : Int) < (E.length : Int) := by omega
            have hii : (J : Int) - 1 < (E.length : Int) := by omega
            have hii0 : (0 : Int) ≤ (J : Int) - 1 := by omega
            have hii1 : (1 : Int) ≤ (J : Int) := by omega
            have hii2 : (J : Int) < (E.length : Int) + 1 := by omega
            have hii3 : (J : Int) ≤ (E.length : Int) := by omega
            have hjp : 0 < J := by omega
            have hwj : IntKind.i64.wrap ((J : Int) - 1) = (J : Int) - 1 := IntWalk.i64_in _ (by omega)
            have hwj1 : IntKind.i64.wrap ((J : Int) + 1) = (J : Int) + 1 := IntWalk.i64_in _ (by omega)
            clear hJt hs1' hs0' hb1' hb0' hJ
            go_wp2_with fail
            have hS : wr.drew.cell? ⟨eb, eo + J, none⟩ = some (.string (numS (lo + ((J - sumk : Nat) : Rat) * wd))) ∧ wr.drew.cell? ⟨eb, eo + (J - 1), none⟩ = some (.string (numS (lo + ((J - sumk - 1 : Nat) : Rat) * wd))) ∧ Below w4.heap.size w4 wr.drew := ⟨hc1', hc0', hBj.drew⟩
            clear hc1' hc0'
            refine region_held_abs (S := (fun w' => w'.cell? ⟨eb, eo + J, none⟩ = some (.string (numS (lo + ((J - sumk : Nat) : Rat) * wd))) ∧ w'.cell? ⟨eb, eo + (J - 1), none⟩ = some (.string (numS (lo + ((J - sumk - 1 : Nat) : Rat) * wd))) ∧ Below w4.heap.size w4 w')) 15 #[false, false, false, false, false, false, false, false, false, false, false, false, false, false, false] (by kernel_rfl) (by kernel_rfl) (by kernel_rfl) (fun _ _ _ _ _ h => h) hS (fun Q' hQ' hN hHeld => ?_)
            refine takeT 180 (i := 0) (v := ?_) hQ' hHeld rfl (by kernel_rfl) (by kernel_rfl) (by kernel_rfl) (by kernel_rfl) (by kernel_rfl) ?_ ?_; rotate_left; (focus (intro w hSw; (try dsimp only at hSw); go_simp; (try with_reducible rfl))); (try simp only [Act.put, List.setIfInBounds_toArray, List.set_cons_zero, List.set_cons_succ])
            refine takeT 181 (i := 1) (v := ?_) hQ' hHeld rfl (by kernel_rfl) (by kernel_rfl) (by kernel_rfl) (by kernel_rfl) (by kernel_rfl) ?_ ?_; rotate_left; (focus (intro w hSw; (try dsimp only at hSw); go_simp; (try with_reducible rfl))); (try simp only [Act.put, List.setIfInBounds_toArray, List.set_cons_zero, List.set_cons_succ])
            refine takeT 182 (i := 2) (v := ?_) hQ' hHeld rfl (by kernel_rfl) (by kernel_rfl) (by kernel_rfl) (by kernel_rfl) (by kernel_rfl) ?_ ?_; rotate_left; (focus (intro w hSw; (try dsimp only at hSw); go_simp; (try with_reducible rfl))); (try simp only [Act.put, List.setIfInBounds_toArray, List.set_cons_zero, List.set_cons_succ])
            refine takeT 183 (i := 3) (v := ?_) hQ' hHeld rfl (by kernel_rfl) (by kernel_rfl) (by kernel_rfl) (by kernel_rfl) (by kernel_rfl) ?_ ?_; rotate_left; (focus (intro w hSw; (try dsimp only at hSw); go_simp; (try with_reducible rfl))); (try simp only [Act.put, List.setIfInBounds_toArray, List.set_cons_zero, List.set_cons_succ])
            refine takeT 184 (i := 4) (v := ?_) hQ' hHeld rfl (by kernel_rfl) (by kernel_rfl) (by kernel_rfl) (by kernel_rfl) (by kernel_rfl) ?_ ?_; rotate_left; (focus (intro w hSw; (try dsimp only at hSw); go_simp; (try with_reducible rfl))); (try simp only [Act.put, List.setIfInBounds_toArray, List.set_cons_zero, List.set_cons_succ])
            refine takeT 185 (i := 5) (v := ?_) hQ' hHeld rfl (by kernel_rfl) (by kernel_rfl) (by kernel_rfl) (by kernel_rfl) (by kernel_rfl) ?_ ?_; rotate_left; (focus (intro w hSw; (try dsimp only at hSw); go_simp; (try with_reducible rfl))); (try simp only [Act.put, List.setIfInBounds_toArray, List.set_cons_zero, List.set_cons_succ])
            refine takeT 186 (i := 6) (v := ?_) hQ' hHeld rfl (by kernel_rfl) (by kernel_rfl) (by kernel_rfl) (by kernel_rfl) (by kernel_rfl) ?_ ?_; rotate_left; (focus (intro w hSw; (try dsimp only at hSw); go_simp; (try with_reducible rfl))); (try simp only [Act.put, List.setIfInBounds_toArray, List.set_cons_zero, List.set_cons_succ])
            refine takeT 187 (i := 7) (v := ?_) hQ' hHeld rfl (by kernel_rfl) (by kernel_rfl) (by kernel_rfl) (by kernel_rfl) (by kernel_rfl) ?_ ?_; rotate_left; (focus (intro w hSw; (try dsimp only at hSw); go_simp; (try with_reducible rfl))); (try simp only [Act.put, List.setIfInBounds_toArray, List.set_cons_zero, List.set_cons_succ])
            refine takeT 188 (i := 8) (v := ?_) hQ' hHeld rfl (by kernel_rfl) (by kernel_rfl) (by kernel_rfl) (by kernel_rfl) (by kernel_rfl) ?_ ?_; rotate_left; (focus (intro w hSw; (try dsimp only at hSw); go_simp; (try with_reducible rfl))); (try simp only [Act.put, List.setIfInBounds_toArray, List.set_cons_zero, List.set_cons_succ])
            refine wpAnyH_ready (rs := [9]) (by kernel_rfl) (by simp) ?_
            refine consW (i := 9) rfl (by kernel_rfl) (fun K hK => ?_)
            go_simp
            refine (Sub_small (numS (lo + ((J - sumk : Nat) : Rat) * wd)) (numS (lo + ((J - sumk - 1 : Nat) : Rat) * wd)) _ (HG4.out.below hHeld.2.2) rfl HS1.out rfl HSB.out).mono ?_
            rintro e w' ⟨rb, hrb, rfl, hBx⟩
            have hrb' := numS_of hrb
            rw [HDF.out] at hrb'
            subst hrb'
            clear hrb
            go_simp
            refine hK.out _ _ ?_ (fun hHeld => ?_)
            · exact keep2 hHeld hBx
            clear hK K
            (try simp only [Act.put, List.setIfInBounds_toArray, List.set_cons_zero, List.set_cons_succ])
            refine takeT 179 (i := 10) (v := ?_) hQ' hHeld rfl (by kernel_rfl) (by kernel_rfl) (by kernel_rfl) (by kernel_rfl) (by kernel_rfl) ?_ ?_; rotate_left; (focus (intro w hSw; (try dsimp only at hSw); go_simp; (try with_reducible rfl))); (try simp only [Act.put, List.setIfInBounds_toArray, List.set_cons_zero, List.set_cons_succ])
            refine takeT 190 (i := 11) (v := ?_) hQ' hHeld rfl (by kernel_rfl) (by kernel_rfl) (by kernel_rfl) (by kernel_rfl) (by kernel_rfl) ?_ ?_; rotate_left; (focus (intro w hSw; (try dsimp only at hSw); go_simp; (try with_reducible rfl))); (try simp only [Act.put, List.setIfInBounds_toArray, List.set_cons_zero, List.set_cons_succ])
            refine takeT 191 (i := 12) (v := ?_) hQ' hHeld rfl (by kernel_rfl) (by kernel_rfl) (by kernel_rfl) (by kernel_rfl) (by kernel_rfl) ?_ ?_; rotate_left; (focus (intro w hSw; (try dsimp only at hSw); go_simp; (try with_reducible rfl))); (try simp only [Act.put, List.setIfInBounds_toArray, List.set_cons_zero, List.set_cons_succ])
            refine takeT 28 (i := 13) (v := ?_) hQ' hHeld rfl (by kernel_rfl) (by kernel_rfl) (by kernel_rfl) (by kernel_rfl) (by kernel_rfl) ?_ ?_; rotate_left; (focus (intro w hSw; (try dsimp only at hSw); go_simp; (try with_reducible rfl))); (try simp only [Act.put, List.setIfInBounds_toArray, List.set_cons_zero, List.set_cons_succ])
            refine takeT 29 (i := 14) (v := ?_) hQ' hHeld rfl (by kernel_rfl) (by kernel_rfl) (by kernel_rfl) (by kernel_rfl) (by kernel_rfl) ?_ ?_; rotate_left; (focus (intro w hSw; (try dsimp only at hSw); go_simp; (try with_reducible rfl))); (try simp only [Act.put, List.setIfInBounds_toArray, List.set_cons_zero, List.set_cons_succ])
            refine wpAnyH_done (by kernel_rfl) ?_ _
            refine hN.out _ _ ?_
            clear hQ' hN Q'
            have hb9 := hHeld.2.2
            clear hHeld hS
            go_wp2_with fail
            refine (num_one wd _ (HG4.out.below hb9) (by omega)).mono ?_
            rintro e w9 ⟨s1, hs1, rfl, hB9⟩
            obtain rfl := hs1.out
            have hb10 : Below w4.heap.size w4 w9 := below_trans' hb9 hB9
            clear hB9 hb9 hs1
            go_wp2_with fail
            go_roundw
            case rel => exact ⟨J + 1, by go_num, Lib.hid ⟨by omega, by omega⟩, hb10⟩
            case measure => simp [intOf]; omega
  · have h5' : decide ((5 : Int) < (l.length : Int)) = true := by simp; omega
    have h5'' : (5 : Int) < (l.length : Int) := by omega
    clear hG h5
    go_enter Tryz.func5, Tryz.ntmps5
    go_wp2_with fail
    refine (awake_ok _ HG.out).mono ?_
    rintro e w1 ⟨rfl, hB1⟩
    go_wp2_with fail
    go_ret
    exact ⟨rfl, hB1⟩
end Go.Proofs.YtjpigaobeegbgaaGreatDoor
