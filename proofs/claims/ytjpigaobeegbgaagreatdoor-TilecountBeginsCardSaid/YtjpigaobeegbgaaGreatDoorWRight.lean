/- The walk of course.right at one course. -/
import Derived.Test.YtjpigaobeegbgaaGreatDoorWCourse1
import Derived.Test.YtjpigaobeegbgaaGreatDoorDrawn
namespace Go.Proofs.YtjpigaobeegbgaaGreatDoor
open Go.RowKit
attribute [local go_sem ↓] Go.wp_at_zero Go.wp_at_succ
/-- spans in memory -/
def IsSpans (w : World) (v : Value) (sp : List (Rat × Rat)) : Prop := ∃ (a : Option Addr) (cap : Nat), v = .slice a sp.length cap ∧ sp.length ≤ cap ∧
  (sp ≠ [] → ∃ b off, a = some ⟨b, off, none⟩ ∧ b < w.heap.size ∧ ∀ k (h : k < sp.length), ∃ s t : ByteArray, w.cell? ⟨b, off + k * 2, none⟩ = some (.string s) ∧ w.cell? ⟨b, off + k * 2 + 1, none⟩ = some (.string t) ∧ s.data.toList = ratText sp[k].1 ∧ t.data.toList = ratText sp[k].2)
theorem IsSpans.below {w w' : World} {v : Value} {sp : List (Rat × Rat)} (h : IsSpans w v sp) (hB : Below w.heap.size w w') : IsSpans w' v sp := by
  obtain ⟨a, cap, h1, h2, h3⟩ := h
  refine ⟨a, cap, h1, h2, fun hn => ?_⟩
  obtain ⟨b, off, e, hb, hc⟩ := h3 hn
  refine ⟨b, off, e, Nat.lt_of_lt_of_le hb hB.size, fun k hk => ?_⟩
  obtain ⟨s, t, c1, c2, c3, c4⟩ := hc k hk
  exact ⟨s, t, (hB.cell (p := ⟨b, _, none⟩) hb).trans c1, (hB.cell (p := ⟨b, _, none⟩) hb).trans c2, c3, c4⟩
/-- right spans: each has a length, and ends before the next one begins -/
def RightSpans (sp : List (Rat × Rat)) : Prop := (∀ k (h : k < sp.length), Small sp[k].1 ∧ Small sp[k].2 ∧ sp[k].1 < sp[k].2) ∧ (∀ k (h : k + 1 < sp.length), sp[k].2 < sp[k + 1].1)
theorem ordQ_lt {p q : Rat} (h : p < q) : ordQ p q = -1 := if_pos h
theorem order_lt {p q : Rat} (s t : ByteArray) (w : World) (hs : s.data.toList = ratText p) (hp : Small p) (ht : t.data.toList = ratText q) (hq : Small q) (h : ordQ p q = -1) :
    Calls Tryz.prog 224 #[.string s, .string t] w (RetB (.int .i64 (-1)) w) := by
  rw [← h]
  exact order_small s t w hs hp ht hq
set_option maxRecDepth 100000 in
set_option maxHeartbeats 12800000 in
theorem right_one {lo hi : Rat} {sp : List (Rat × Rat)} (b0 o0 cap0 : Nat) (s t : ByteArray) (v : Value) (w : World) (hG : Glo w)
    (c0 : w.cell? ⟨b0, o0, none⟩ = some (.string s)) (c1 : w.cell? ⟨b0, o0 + 1, none⟩ = some (.string t)) (c2 : w.cell? ⟨b0, o0 + 2, none⟩ = some v)
    (hs : s.data.toList = ratText lo) (ht : t.data.toList = ratText hi) (hlo : Small lo) (hhi : Small hi) (hlt : lo < hi)
    (hv : IsSpans w v sp) (hr : RightSpans sp) (hn : sp.length ≤ 64) :
    Calls Tryz.prog 199 #[.slice (some ⟨b0, o0, none⟩) 1 cap0] w (RetB (.bool true) w) := by
  obtain ⟨a, cap, rfl, hcap, hcells⟩ := hv
  have HS := Lib.hid hs
  have HT := Lib.hid ht
  have HG := Lib.hid hG
  have HC := Lib.hid hcells
  have HR := Lib.hid hr
  have ho1 := ordQ_lt hlt
  clear hs ht hG hcells hr
  go_enter Tryz.func199, Tryz.ntmps199
  go_wp2_with fail
  go_loopw [12] (fun i wr => ∃ k : Nat, k ≤ 1 ∧ i = .int .i64 k ∧ Below w.heap.size w wr) (fun i _ => 1 - (intOf i).toNat)
  case atStart => exact ⟨0, by omega, rfl, Below.refl _ _⟩
  case round =>
    obtain ⟨k, hk, rfl, hB0⟩ := hrel
    by_cases hk1 : k = 1
    · subst hk1
      go_wp2_with fail
      go_ret
      exact ⟨rfl, hB0⟩
    · obtain rfl : k = 0 := by omega
      clear hk hk1
      have d0 := keep hB0 c0
      have d1 := keep hB0 c1
      have d2 := keep hB0 c2
      clear c0 c1 c2
      go_wp2_with fail
      refine (short_small s _ (HG.out.below (by repeat (first | (with_reducible first | exact Below.refl _ _ | refine Below.setCell ?_ ?_ _ | refine below_drewN ?_ _ | refine Below.drew ?_ | refine below_alloc ?_ _ | refine below_trans'' (by assumption) ?_) | exact Nat.le_refl _ | (focus (simp; done)) | (focus (simp; omega)) | omega))) HS.out hlo).mono ?_
      rintro e w2 ⟨rfl, hB2⟩
      obtain ⟨hc2, hf2⟩ := bcell hB2
      have z2 := hB2.size
      simp only [World.size_alloc] at z2
      have f0 : w2.cell? ⟨wr.heap.size, 0, none⟩ = some (.string s) := by rw [hc2 _ _ (by simp)]; simp [go_sem]
      have f1 : w2.cell? ⟨wr.heap.size, 1, none⟩ = some (.string t) := by rw [hc2 _ _ (by simp)]; simp [go_sem]
      have f2 : w2.cell? ⟨wr.heap.size, 2, none⟩ = some (.slice a sp.length cap) := by rw [hc2 _ _ (by simp)]; simp [go_sem]
      have hB2' : Below w.heap.size w w2 := (by repeat (first | (with_reducible first | exact Below.refl _ _ | refine Below.setCell ?_ ?_ _ | refine below_drewN ?_ _ | refine Below.drew ?_ | refine below_alloc ?_ _ | refine below_trans'' (by assumption) ?_) | exact Nat.le_refl _ | (focus (simp; done)) | (focus (simp; omega)) | omega))
      clear hc2 hf2 hB2 d0 d1 d2
      go_wp2_with fail
      refine (short_small t _ (HG.out.below hB2') HT.out hhi).mono ?_
      rintro e w3 ⟨rfl, hB3⟩
      have z3 := hB3.size
      have g0 := keep hB3 f0
      have g1 := keep hB3 f1
      have g2 := keep hB3 f2
      have hB3' : Below w.heap.size w w3 := below_trans' hB2' hB3
      clear hB3 f0 f1 f2 hB2'
      go_wp2_with fail
      refine (order_small s t _ HS.out hlo HT.out hhi).mono ?_
      rintro e w4 ⟨rfl, hB4⟩
      have z4 := hB4.size
      have k0 := keep hB4 g0
      have k1 := keep hB4 g1
      have k2 := keep hB4 g2
      have hB4' : Below w.heap.size w w4 := below_trans' hB3' hB4
      have zr : wr.heap.size < w4.heap.size := by omega
      rw [ho1]
      clear hB4 g0 g1 g2 hB3' ho1
      go_wp2_with fail
      obtain ⟨wo, rfl⟩ : ∃ wo : World, wo = wr := ⟨_, rfl⟩
      go_loopw [43] (fun i wq => ∃ j : Nat, j ≤ sp.length ∧ i = .int .i64 j ∧ Below w.heap.size w wq ∧ wq.cell? ⟨wo.heap.size, 2, none⟩ = some (.slice a sp.length cap)) (fun i _ => sp.length - (intOf i).toNat)
      case atStart => exact ⟨0, by omega, rfl, hB4', k2⟩
      case round =>
        obtain ⟨j, hj, rfl, hBj, kj⟩ := hrel
        clear k0 k1 k2 hB4' hB0 zr z4 z3 z2
        by_cases hjn : j = sp.length
        · subst hjn
          go_wp2_with fail
          go_roundw
          case rel => exact ⟨1, by omega, rfl, hBj⟩
          case measure => simp [intOf]
        · have hj1 : j < sp.length := by omega
          obtain ⟨b, off, rfl, hbb, hcc⟩ := HC.out (fun h => by rw [h] at hj1; simp at hj1)
          obtain ⟨u, v, e0, e1, hu, hv⟩ := hcc j hj1
          have q0 := keep hBj e0
          have q1 := keep hBj e1
          have HU := Lib.hid hu
          have HV := Lib.hid hv
          have hji : (j : Int) < (sp.length : Int) := by omega
          clear hu hv e0 e1 hjn hcc
          go_wp2_with fail
          have hRj := HR.out.1 j hj1
          obtain ⟨hR1, hR2, hR3⟩ := hRj
          have ho := ordQ_lt hR3
          have HO := Lib.hid ho
          clear ho hR3
          by_cases hj0 : j = 0
          · as_aux_lemma =>
            subst hj0
            have x0 : (wr.alloc (.cells #[.string u, .string v] 53)).cell? ⟨wr.heap.size, 0, none⟩ = some (.string u) := by simp [go_sem]
            have x1 : (wr.alloc (.cells #[.string u, .string v] 53)).cell? ⟨wr.heap.size, 1, none⟩ = some (.string v) := by simp [go_sem]
            have hBk : Below w.heap.size w (wr.alloc (.cells #[.string u, .string v] 53)) := (by repeat (first | (with_reducible first | exact Below.refl _ _ | exact hB | refine Below.setCell ?_ ?_ _ | refine below_drewN ?_ _ | refine Below.drew ?_ | refine below_alloc ?_ _ | refine below_trans'' (by assumption) ?_) | exact Nat.le_refl _ | (focus (simp; done)) | (focus (simp; omega)) | omega))
            have kj' : (wr.alloc (.cells #[.string u, .string v] 53)).cell? ⟨wo.heap.size, 2, none⟩ = some (.slice (some ⟨b, off, none⟩) sp.length cap) := keep (below_alloc (Below.refl _ _) _) kj
            have hS : (wr.alloc (.cells #[.string u, .string v] 53)).drew.cell? ⟨wr.heap.size, 0, none⟩ = some (.string u) ∧ (wr.alloc (.cells #[.string u, .string v] 53)).drew.cell? ⟨wr.heap.size, 1, none⟩ = some (.string v) ∧ (wr.alloc (.cells #[.string u, .string v] 53)).drew.cell? ⟨wo.heap.size, 2, none⟩ = some (.slice (some ⟨b, off, none⟩) sp.length cap) ∧ Below w.heap.size w (wr.alloc (.cells #[.string u, .string v] 53)).drew := ⟨x0, x1, kj', hBk.drew⟩
            generalize wr.alloc (.cells #[.string u, .string v] 53) = W at *
            clear x0 x1 kj' hBk
            refine region_held_abs (S := (fun w' => w'.cell? ⟨wr.heap.size, 0, none⟩ = some (.string u) ∧ w'.cell? ⟨wr.heap.size, 1, none⟩ = some (.string v) ∧ w'.cell? ⟨wo.heap.size, 2, none⟩ = some (.slice (some ⟨b, off, none⟩) sp.length cap) ∧ Below w.heap.size w w')) 35 #[false, false, false, false, false, false, false, false, false, false, false, false, false, false, false, false, false, false, false, false, false, false, false, false, false, false, false, false, false, false, false, false, false, false, false] (by kernel_rfl) (by kernel_rfl) (by kernel_rfl) (fun _ _ _ _ _ h => h) hS (fun Q' hQ' hN hHeld => ?_)
            refine takeT 48 (i := 0) (v := ?_) hQ' hHeld rfl (by kernel_rfl) (by kernel_rfl) (by kernel_rfl) (by kernel_rfl) (by kernel_rfl) ?_ ?_; rotate_left; (focus (intro w hSw; (try dsimp only at hSw); go_simp; (try with_reducible rfl))); (try simp only [Act.put, List.setIfInBounds_toArray, List.set_cons_zero, List.set_cons_succ])
            refine takeT 49 (i := 1) (v := ?_) hQ' hHeld rfl (by kernel_rfl) (by kernel_rfl) (by kernel_rfl) (by kernel_rfl) (by kernel_rfl) ?_ ?_; rotate_left; (focus (intro w hSw; (try dsimp only at hSw); go_simp; (try with_reducible rfl))); (try simp only [Act.put, List.setIfInBounds_toArray, List.set_cons_zero, List.set_cons_succ])
            refine wpAnyH_ready (rs := [2]) (by kernel_rfl) (by simp) ?_
            refine consW (i := 2) rfl (by kernel_rfl) (fun K hK => ?_)
            go_simp
            refine (short_small u _ (glo3 HG.out hHeld) HU.out hR1).mono ?_
            rintro e w' ⟨rfl, hBx⟩
            go_simp
            refine hK.out _ _ ?_ (fun hHeld => ?_)
            · exact keep3 hHeld hBx
            clear hK K
            (try simp only [Act.put, List.setIfInBounds_toArray, List.set_cons_zero, List.set_cons_succ])
            refine takeT 51 (i := 3) (v := ?_) hQ' hHeld rfl (by kernel_rfl) (by kernel_rfl) (by kernel_rfl) (by kernel_rfl) (by kernel_rfl) ?_ ?_; rotate_left; (focus (intro w hSw; (try dsimp only at hSw); go_simp; (try with_reducible rfl))); (try simp only [Act.put, List.setIfInBounds_toArray, List.set_cons_zero, List.set_cons_succ])
            refine takeT 52 (i := 4) (v := ?_) hQ' hHeld rfl (by kernel_rfl) (by kernel_rfl) (by kernel_rfl) (by kernel_rfl) (by kernel_rfl) ?_ ?_; rotate_left; (focus (intro w hSw; (try dsimp only at hSw); go_simp; (try with_reducible rfl))); (try simp only [Act.put, List.setIfInBounds_toArray, List.set_cons_zero, List.set_cons_succ])
            refine takeT 53 (i := 5) (v := ?_) hQ' hHeld rfl (by kernel_rfl) (by kernel_rfl) (by kernel_rfl) (by kernel_rfl) (by kernel_rfl) ?_ ?_; rotate_left; (focus (intro w hSw; (try dsimp only at hSw); go_simp; (try with_reducible rfl))); (try simp only [Act.put, List.setIfInBounds_toArray, List.set_cons_zero, List.set_cons_succ])
            refine takeT 54 (i := 6) (v := ?_) hQ' hHeld rfl (by kernel_rfl) (by kernel_rfl) (by kernel_rfl) (by kernel_rfl) (by kernel_rfl) ?_ ?_; rotate_left; (focus (intro w hSw; (try dsimp only at hSw); go_simp; (try with_reducible rfl))); (try simp only [Act.put, List.setIfInBounds_toArray, List.set_cons_zero, List.set_cons_succ])
            refine wpAnyH_ready (rs := [7]) (by kernel_rfl) (by simp) ?_
            refine consW (i := 7) rfl (by kernel_rfl) (fun K hK => ?_)
            go_simp
            refine (short_small v _ (glo3 HG.out hHeld) HV.out hR2).mono ?_
            rintro e w' ⟨rfl, hBx⟩
            go_simp
            refine hK.out _ _ ?_ (fun hHeld => ?_)
            · exact keep3 hHeld hBx
            clear hK K
            (try simp only [Act.put, List.setIfInBounds_toArray, List.set_cons_zero, List.set_cons_succ])
            refine takeT 56 (i := 8) (v := ?_) hQ' hHeld rfl (by kernel_rfl) (by kernel_rfl) (by kernel_rfl) (by kernel_rfl) (by kernel_rfl) ?_ ?_; rotate_left; (focus (intro w hSw; (try dsimp only at hSw); go_simp; (try with_reducible rfl))); (try simp only [Act.put, List.setIfInBounds_toArray, List.set_cons_zero, List.set_cons_succ])
            refine takeT 57 (i := 9) (v := ?_) hQ' hHeld rfl (by kernel_rfl) (by kernel_rfl) (by kernel_rfl) (by kernel_rfl) (by kernel_rfl) ?_ ?_; rotate_left; (focus (intro w hSw; (try dsimp only at hSw); go_simp; (try with_reducible rfl))); (try simp only [Act.put, List.setIfInBounds_toArray, List.set_cons_zero, List.set_cons_succ])
            refine takeT 58 (i := 10) (v := ?_) hQ' hHeld rfl (by kernel_rfl) (by kernel_rfl) (by kernel_rfl) (by kernel_rfl) (by kernel_rfl) ?_ ?_; rotate_left; (focus (intro w hSw; (try dsimp only at hSw); go_simp; (try with_reducible rfl))); (try simp only [Act.put, List.setIfInBounds_toArray, List.set_cons_zero, List.set_cons_succ])
            refine takeT 59 (i := 11) (v := ?_) hQ' hHeld rfl (by kernel_rfl) (by kernel_rfl) (by kernel_rfl) (by kernel_rfl) (by kernel_rfl) ?_ ?_; rotate_left; (focus (intro w hSw; (try dsimp only at hSw); go_simp; (try with_reducible rfl))); (try simp only [Act.put, List.setIfInBounds_toArray, List.set_cons_zero, List.set_cons_succ])
            refine takeT 60 (i := 12) (v := ?_) hQ' hHeld rfl (by kernel_rfl) (by kernel_rfl) (by kernel_rfl) (by kernel_rfl) (by kernel_rfl) ?_ ?_; rotate_left; (focus (intro w hSw; (try dsimp only at hSw); go_simp; (try with_reducible rfl))); (try simp only [Act.put, List.setIfInBounds_toArray, List.set_cons_zero, List.set_cons_succ])
            refine takeT 61 (i := 13) (v := ?_) hQ' hHeld rfl (by kernel_rfl) (by kernel_rfl) (by kernel_rfl) (by kernel_rfl) (by kernel_rfl) ?_ ?_; rotate_left; (focus (intro w hSw; (try dsimp only at hSw); go_simp; (try with_reducible rfl))); (try simp only [Act.put, List.setIfInBounds_toArray, List.set_cons_zero, List.set_cons_succ])
            refine takeT 62 (i := 14) (v := ?_) hQ' hHeld rfl (by kernel_rfl) (by kernel_rfl) (by kernel_rfl) (by kernel_rfl) (by kernel_rfl) ?_ ?_; rotate_left; (focus (intro w hSw; (try dsimp only at hSw); go_simp; (try with_reducible rfl))); (try simp only [Act.put, List.setIfInBounds_toArray, List.set_cons_zero, List.set_cons_succ])
            refine wpAnyH_ready (rs := [15]) (by kernel_rfl) (by simp) ?_
            refine consW (i := 15) rfl (by kernel_rfl) (fun K hK => ?_)
            go_simp
            refine (order_lt u v _ HU.out hR1 HV.out hR2 HO.out).mono ?_
            rintro e w' ⟨rfl, hBx⟩
            go_simp
            refine hK.out _ _ ?_ (fun hHeld => ?_)
            · exact keep3 hHeld hBx
            clear hK K
            (try simp only [Act.put, List.setIfInBounds_toArray, List.set_cons_zero, List.set_cons_succ])
            refine takeT 64 (i := 16) (v := ?_) hQ' hHeld rfl (by kernel_rfl) (by kernel_rfl) (by kernel_rfl) (by kernel_rfl) (by kernel_rfl) ?_ ?_; rotate_left; (focus (intro w hSw; (try dsimp only at hSw); go_simp; (try with_reducible rfl))); (try simp only [Act.put, List.setIfInBounds_toArray, List.set_cons_zero, List.set_cons_succ])
            refine takeT 65 (i := 17) (v := ?_) hQ' hHeld rfl (by kernel_rfl) (by kernel_rfl) (by kernel_rfl) (by kernel_rfl) (by kernel_rfl) ?_ ?_; rotate_left; (focus (intro w hSw; (try dsimp only at hSw); go_simp; (try with_reducible rfl))); (try simp only [Act.put, List.setIfInBounds_toArray, List.set_cons_zero, List.set_cons_succ])
            refine takeT 66 (i := 18) (v := ?_) hQ' hHeld rfl (by kernel_rfl) (by kernel_rfl) (by kernel_rfl) (by kernel_rfl) (by kernel_rfl) ?_ ?_; rotate_left; (focus (intro w hSw; (try dsimp only at hSw); go_simp; (try with_reducible rfl))); (try simp only [Act.put, List.setIfInBounds_toArray, List.set_cons_zero, List.set_cons_succ])
            refine takeT 67 (i := 19) (v := ?_) hQ' hHeld rfl (by kernel_rfl) (by kernel_rfl) (by kernel_rfl) (by kernel_rfl) (by kernel_rfl) ?_ ?_; rotate_left; (focus (intro w hSw; (try dsimp only at hSw); go_simp; (try with_reducible rfl))); (try simp only [Act.put, List.setIfInBounds_toArray, List.set_cons_zero, List.set_cons_succ])
            refine takeT 68 (i := 20) (v := ?_) hQ' hHeld rfl (by kernel_rfl) (by kernel_rfl) (by kernel_rfl) (by kernel_rfl) (by kernel_rfl) ?_ ?_; rotate_left; (focus (intro w hSw; (try dsimp only at hSw); go_simp; (try with_reducible rfl))); (try simp only [Act.put, List.setIfInBounds_toArray, List.set_cons_zero, List.set_cons_succ])
            refine takeT 69 (i := 21) (v := ?_) hQ' hHeld rfl (by kernel_rfl) (by kernel_rfl) (by kernel_rfl) (by kernel_rfl) (by kernel_rfl) ?_ ?_; rotate_left; (focus (intro w hSw; (try dsimp only at hSw); go_simp; (try with_reducible rfl))); (try simp only [Act.put, List.setIfInBounds_toArray, List.set_cons_zero, List.set_cons_succ])
            refine takeF 70 (i := 22) hQ' hHeld rfl (by kernel_rfl) (by kernel_rfl) (by kernel_rfl) (by kernel_rfl) (by kernel_rfl) ?_; (try simp only [Act.put, List.setIfInBounds_toArray, List.set_cons_zero, List.set_cons_succ])
            refine takeF 71 (i := 23) hQ' hHeld rfl (by kernel_rfl) (by kernel_rfl) (by kernel_rfl) (by kernel_rfl) (by kernel_rfl) ?_; (try simp only [Act.put, List.setIfInBounds_toArray, List.set_cons_zero, List.set_cons_succ])
            refine takeF 72 (i := 24) hQ' hHeld rfl (by kernel_rfl) (by kernel_rfl) (by kernel_rfl) (by kernel_rfl) (by kernel_rfl) ?_; (try simp only [Act.put, List.setIfInBounds_toArray, List.set_cons_zero, List.set_cons_succ])
            refine takeF 73 (i := 25) hQ' hHeld rfl (by kernel_rfl) (by kernel_rfl) (by kernel_rfl) (by kernel_rfl) (by kernel_rfl) ?_; (try simp only [Act.put, List.setIfInBounds_toArray, List.set_cons_zero, List.set_cons_succ])
            refine takeF 74 (i := 26) hQ' hHeld rfl (by kernel_rfl) (by kernel_rfl) (by kernel_rfl) (by kernel_rfl) (by kernel_rfl) ?_; (try simp only [Act.put, List.setIfInBounds_toArray, List.set_cons_zero, List.set_cons_succ])
            refine takeF 75 (i := 27) hQ' hHeld rfl (by kernel_rfl) (by kernel_rfl) (by kernel_rfl) (by kernel_rfl) (by kernel_rfl) ?_; (try simp only [Act.put, List.setIfInBounds_toArray, List.set_cons_zero, List.set_cons_succ])
            refine takeF 76 (i := 28) hQ' hHeld rfl (by kernel_rfl) (by kernel_rfl) (by kernel_rfl) (by kernel_rfl) (by kernel_rfl) ?_; (try simp only [Act.put, List.setIfInBounds_toArray, List.set_cons_zero, List.set_cons_succ])
            refine takeF 77 (i := 29) hQ' hHeld rfl (by kernel_rfl) (by kernel_rfl) (by kernel_rfl) (by kernel_rfl) (by kernel_rfl) ?_; (try simp only [Act.put, List.setIfInBounds_toArray, List.set_cons_zero, List.set_cons_succ])
            refine takeF 78 (i := 30) hQ' hHeld rfl (by kernel_rfl) (by kernel_rfl) (by kernel_rfl) (by kernel_rfl) (by kernel_rfl) ?_; (try simp only [Act.put, List.setIfInBounds_toArray, List.set_cons_zero, List.set_cons_succ])
            refine takeF 79 (i := 31) hQ' hHeld rfl (by kernel_rfl) (by kernel_rfl) (by kernel_rfl) (by kernel_rfl) (by kernel_rfl) ?_; (try simp only [Act.put, List.setIfInBounds_toArray, List.set_cons_zero, List.set_cons_succ])
            refine takeF 80 (i := 32) hQ' hHeld rfl (by kernel_rfl) (by kernel_rfl) (by kernel_rfl) (by kernel_rfl) (by kernel_rfl) ?_; (try simp only [Act.put, List.setIfInBounds_toArray, List.set_cons_zero, List.set_cons_succ])
            refine takeT 81 (i := 33) (v := ?_) hQ' hHeld rfl (by kernel_rfl) (by kernel_rfl) (by kernel_rfl) (by kernel_rfl) (by kernel_rfl) ?_ ?_; rotate_left; (focus (intro w hSw; (try dsimp only at hSw); go_simp; (try with_reducible rfl))); (try simp only [Act.put, List.setIfInBounds_toArray, List.set_cons_zero, List.set_cons_succ])
            refine takeT 82 (i := 34) (v := ?_) hQ' hHeld rfl (by kernel_rfl) (by kernel_rfl) (by kernel_rfl) (by kernel_rfl) (by kernel_rfl) ?_ ?_; rotate_left; (focus (intro w hSw; (try dsimp only at hSw); go_simp; (try with_reducible rfl))); (try simp only [Act.put, List.setIfInBounds_toArray, List.set_cons_zero, List.set_cons_succ])
            refine wpAnyH_done (by kernel_rfl) ?_ _
            refine hN.out _ _ ?_
            go_wp2_with fail
            go_roundw
            case rel => exact ⟨1, by omega, by go_num, hHeld.2.2.2, hHeld.2.2.1⟩
            case measure => simp [intOf]; omega
          · as_aux_lemma =>
            have hi1 : j - 1 < sp.length := by omega
            obtain ⟨b', off', hbo, hbb', hcc'⟩ := HC.out (fun h => by rw [h] at hj1; simp at hj1)
            simp only [Option.some.injEq, Addr.mk.injEq] at hbo
            obtain ⟨rfl, rfl, _⟩ := hbo
            obtain ⟨_, z, _, e1', _, hz⟩ := hcc' (j - 1) hi1
            have q2 := keep hBj e1'
            have hR0 := (HR.out.1 (j - 1) hi1).2.1
            have hj2 : j - 1 + 1 < sp.length := by omega
            have hlt2 := HR.out.2 (j - 1) hj2
            have hjj : sp[j - 1 + 1] = sp[j] := by congr 1; omega
            rw [hjj] at hlt2
            have ho2 := ordQ_lt hlt2
            have HO2 := Lib.hid ho2
            have HZ := Lib.hid hz
            have hjz : (0 : Int) < (j : Int) := by omega
            have hjN : 0 < j := by omega
            have hii : (j : Int) - 1 < (sp.length : Int) := by omega
            have hii0 : (0 : Int) ≤ (j : Int) - 1 := by omega
            have hii1 : (1 : Int) ≤ (j : Int) := by omega
            have hii2 : (j : Int) < (sp.length : Int) + 1 := by omega
            have hii3 : (j : Int) ≤ (sp.length : Int) := by omega
            have hwj : IntKind.i64.wrap ((j : Int) - 1) = (j : Int) - 1 := IntWalk.i64_in _ (by omega)
            have hcap' : (sp.length : Int) ≤ 64 := by omega
            have x0 : (wr.alloc (.cells #[.string u, .string v] 53)).cell? ⟨wr.heap.size, 0, none⟩ = some (.string u) := by simp [go_sem]
            have x1 : (wr.alloc (.cells #[.string u, .string v] 53)).cell? ⟨wr.heap.size, 1, none⟩ = some (.string v) := by simp [go_sem]
            have hBk : Below w.heap.size w (wr.alloc (.cells #[.string u, .string v] 53)) := (by repeat (first | (with_reducible first | exact Below.refl _ _ | exact hB | refine Below.setCell ?_ ?_ _ | refine below_drewN ?_ _ | refine Below.drew ?_ | refine below_alloc ?_ _ | refine below_trans'' (by assumption) ?_) | exact Nat.le_refl _ | (focus (simp; done)) | (focus (simp; omega)) | omega))
            have kj' : (wr.alloc (.cells #[.string u, .string v] 53)).cell? ⟨wo.heap.size, 2, none⟩ = some (.slice (some ⟨b, off, none⟩) sp.length cap) := keep (below_alloc (Below.refl _ _) _) kj
            have q2' : (wr.alloc (.cells #[.string u, .string v] 53)).cell? ⟨b, off + (j - 1) * 2 + 1, none⟩ = some (.string z) := keep (below_alloc (Below.refl _ _) _) q2
            have hS : (wr.alloc (.cells #[.string u, .string v] 53)).drew.cell? ⟨wr.heap.size, 0, none⟩ = some (.string u) ∧ (wr.alloc (.cells #[.string u, .string v] 53)).drew.cell? ⟨wr.heap.size, 1, none⟩ = some (.string v) ∧ (wr.alloc (.cells #[.string u, .string v] 53)).drew.cell? ⟨wo.heap.size, 2, none⟩ = some (.slice (some ⟨b, off, none⟩) sp.length cap) ∧ (wr.alloc (.cells #[.string u, .string v] 53)).drew.cell? ⟨b, off + (j - 1) * 2 + 1, none⟩ = some (.string z) ∧ Below w.heap.size w (wr.alloc (.cells #[.string u, .string v] 53)).drew := ⟨x0, x1, kj', q2', hBk.drew⟩
            generalize wr.alloc (.cells #[.string u, .string v] 53) = W at *
            clear x0 x1 kj' hBk q0 q1 q2 q2' hcc' e1' ho2 hz hj0 hlt2 hjj
            refine region_held_abs (S := (fun w' => w'.cell? ⟨wr.heap.size, 0, none⟩ = some (.string u) ∧ w'.cell? ⟨wr.heap.size, 1, none⟩ = some (.string v) ∧ w'.cell? ⟨wo.heap.size, 2, none⟩ = some (.slice (some ⟨b, off, none⟩) sp.length cap) ∧ w'.cell? ⟨b, off + (j - 1) * 2 + 1, none⟩ = some (.string z) ∧ Below w.heap.size w w')) 35 #[false, false, false, false, false, false, false, false, false, false, false, false, false, false, false, false, false, false, false, false, false, false, false, false, false, false, false, false, false, false, false, false, false, false, false] (by kernel_rfl) (by kernel_rfl) (by kernel_rfl) (fun _ _ _ _ _ h => h) hS (fun Q' hQ' hN hHeld => ?_)
            refine takeT 48 (i := 0) (v := ?_) hQ' hHeld rfl (by kernel_rfl) (by kernel_rfl) (by kernel_rfl) (by kernel_rfl) (by kernel_rfl) ?_ ?_; rotate_left; (focus (intro w hSw; (try dsimp only at hSw); go_simp; (try with_reducible rfl))); (try simp only [Act.put, List.setIfInBounds_toArray, List.set_cons_zero, List.set_cons_succ])
            refine takeT 49 (i := 1) (v := ?_) hQ' hHeld rfl (by kernel_rfl) (by kernel_rfl) (by kernel_rfl) (by kernel_rfl) (by kernel_rfl) ?_ ?_; rotate_left; (focus (intro w hSw; (try dsimp only at hSw); go_simp; (try with_reducible rfl))); (try simp only [Act.put, List.setIfInBounds_toArray, List.set_cons_zero, List.set_cons_succ])
            refine wpAnyH_ready (rs := [2]) (by kernel_rfl) (by simp) ?_
            refine consW (i := 2) rfl (by kernel_rfl) (fun K hK => ?_)
            go_simp
            refine (short_small u _ (glo4 HG.out hHeld) HU.out hR1).mono ?_
            rintro e w' ⟨rfl, hBx⟩
            go_simp
            refine hK.out _ _ ?_ (fun hHeld => ?_)
            · exact keep4 hHeld hBx
            clear hK K
            (try simp only [Act.put, List.setIfInBounds_toArray, List.set_cons_zero, List.set_cons_succ])
            refine takeT 51 (i := 3) (v := ?_) hQ' hHeld rfl (by kernel_rfl) (by kernel_rfl) (by kernel_rfl) (by kernel_rfl) (by kernel_rfl) ?_ ?_; rotate_left; (focus (intro w hSw; (try dsimp only at hSw); go_simp; (try with_reducible rfl))); (try simp only [Act.put, List.setIfInBounds_toArray, List.set_cons_zero, List.set_cons_succ])
            refine takeT 52 (i := 4) (v := ?_) hQ' hHeld rfl (by kernel_rfl) (by kernel_rfl) (by kernel_rfl) (by kernel_rfl) (by kernel_rfl) ?_ ?_; rotate_left; (focus (intro w hSw; (try dsimp only at hSw); go_simp; (try with_reducible rfl))); (try simp only [Act.put, List.setIfInBounds_toArray, List.set_cons_zero, List.set_cons_succ])
            refine takeT 53 (i := 5) (v := ?_) hQ' hHeld rfl (by kernel_rfl) (by kernel_rfl) (by kernel_rfl) (by kernel_rfl) (by kernel_rfl) ?_ ?_; rotate_left; (focus (intro w hSw; (try dsimp only at hSw); go_simp; (try with_reducible rfl))); (try simp only [Act.put, List.setIfInBounds_toArray, List.set_cons_zero, List.set_cons_succ])
            refine takeT 54 (i := 6) (v := ?_) hQ' hHeld rfl (by kernel_rfl) (by kernel_rfl) (by kernel_rfl) (by kernel_rfl) (by kernel_rfl) ?_ ?_; rotate_left; (focus (intro w hSw; (try dsimp only at hSw); go_simp; (try with_reducible rfl))); (try simp only [Act.put, List.setIfInBounds_toArray, List.set_cons_zero, List.set_cons_succ])
            refine wpAnyH_ready (rs := [7]) (by kernel_rfl) (by simp) ?_
            refine consW (i := 7) rfl (by kernel_rfl) (fun K hK => ?_)
            go_simp
            refine (short_small v _ (glo4 HG.out hHeld) HV.out hR2).mono ?_
            rintro e w' ⟨rfl, hBx⟩
            go_simp
            refine hK.out _ _ ?_ (fun hHeld => ?_)
            · exact keep4 hHeld hBx
            clear hK K
            (try simp only [Act.put, List.setIfInBounds_toArray, List.set_cons_zero, List.set_cons_succ])
            refine takeT 56 (i := 8) (v := ?_) hQ' hHeld rfl (by kernel_rfl) (by kernel_rfl) (by kernel_rfl) (by kernel_rfl) (by kernel_rfl) ?_ ?_; rotate_left; (focus (intro w hSw; (try dsimp only at hSw); go_simp; (try with_reducible rfl))); (try simp only [Act.put, List.setIfInBounds_toArray, List.set_cons_zero, List.set_cons_succ])
            refine takeT 57 (i := 9) (v := ?_) hQ' hHeld rfl (by kernel_rfl) (by kernel_rfl) (by kernel_rfl) (by kernel_rfl) (by kernel_rfl) ?_ ?_; rotate_left; (focus (intro w hSw; (try dsimp only at hSw); go_simp; (try with_reducible rfl))); (try simp only [Act.put, List.setIfInBounds_toArray, List.set_cons_zero, List.set_cons_succ])
            refine takeT 58 (i := 10) (v := ?_) hQ' hHeld rfl (by kernel_rfl) (by kernel_rfl) (by kernel_rfl) (by kernel_rfl) (by kernel_rfl) ?_ ?_; rotate_left; (focus (intro w hSw; (try dsimp only at hSw); go_simp; (try with_reducible rfl))); (try simp only [Act.put, List.setIfInBounds_toArray, List.set_cons_zero, List.set_cons_succ])
            refine takeT 59 (i := 11) (v := ?_) hQ' hHeld rfl (by kernel_rfl) (by kernel_rfl) (by kernel_rfl) (by kernel_rfl) (by kernel_rfl) ?_ ?_; rotate_left; (focus (intro w hSw; (try dsimp only at hSw); go_simp; (try with_reducible rfl))); (try simp only [Act.put, List.setIfInBounds_toArray, List.set_cons_zero, List.set_cons_succ])
            refine takeT 60 (i := 12) (v := ?_) hQ' hHeld rfl (by kernel_rfl) (by kernel_rfl) (by kernel_rfl) (by kernel_rfl) (by kernel_rfl) ?_ ?_; rotate_left; (focus (intro w hSw; (try dsimp only at hSw); go_simp; (try with_reducible rfl))); (try simp only [Act.put, List.setIfInBounds_toArray, List.set_cons_zero, List.set_cons_succ])
            refine takeT 61 (i := 13) (v := ?_) hQ' hHeld rfl (by kernel_rfl) (by kernel_rfl) (by kernel_rfl) (by kernel_rfl) (by kernel_rfl) ?_ ?_; rotate_left; (focus (intro w hSw; (try dsimp only at hSw); go_simp; (try with_reducible rfl))); (try simp only [Act.put, List.setIfInBounds_toArray, List.set_cons_zero, List.set_cons_succ])
            refine takeT 62 (i := 14) (v := ?_) hQ' hHeld rfl (by kernel_rfl) (by kernel_rfl) (by kernel_rfl) (by kernel_rfl) (by kernel_rfl) ?_ ?_; rotate_left; (focus (intro w hSw; (try dsimp only at hSw); go_simp; (try with_reducible rfl))); (try simp only [Act.put, List.setIfInBounds_toArray, List.set_cons_zero, List.set_cons_succ])
            refine wpAnyH_ready (rs := [15]) (by kernel_rfl) (by simp) ?_
            refine consW (i := 15) rfl (by kernel_rfl) (fun K hK => ?_)
            go_simp
            refine (order_lt u v _ HU.out hR1 HV.out hR2 HO.out).mono ?_
            rintro e w' ⟨rfl, hBx⟩
            go_simp
            refine hK.out _ _ ?_ (fun hHeld => ?_)
            · exact keep4 hHeld hBx
            clear hK K
            (try simp only [Act.put, List.setIfInBounds_toArray, List.set_cons_zero, List.set_cons_succ])
            refine takeT 64 (i := 16) (v := ?_) hQ' hHeld rfl (by kernel_rfl) (by kernel_rfl) (by kernel_rfl) (by kernel_rfl) (by kernel_rfl) ?_ ?_; rotate_left; (focus (intro w hSw; (try dsimp only at hSw); go_simp; (try with_reducible rfl))); (try simp only [Act.put, List.setIfInBounds_toArray, List.set_cons_zero, List.set_cons_succ])
            refine takeT 65 (i := 17) (v := ?_) hQ' hHeld rfl (by kernel_rfl) (by kernel_rfl) (by kernel_rfl) (by kernel_rfl) (by kernel_rfl) ?_ ?_; rotate_left; (focus (intro w hSw; (try dsimp only at hSw); go_simp; (try with_reducible rfl))); (try simp only [Act.put, List.setIfInBounds_toArray, List.set_cons_zero, List.set_cons_succ])
            refine takeT 66 (i := 18) (v := ?_) hQ' hHeld rfl (by kernel_rfl) (by kernel_rfl) (by kernel_rfl) (by kernel_rfl) (by kernel_rfl) ?_ ?_; rotate_left; (focus (intro w hSw; (try dsimp only at hSw); go_simp; (try with_reducible rfl))); (try simp only [Act.put, List.setIfInBounds_toArray, List.set_cons_zero, List.set_cons_succ])
            refine takeT 67 (i := 19) (v := ?_) hQ' hHeld rfl (by kernel_rfl) (by kernel_rfl) (by kernel_rfl) (by kernel_rfl) (by kernel_rfl) ?_ ?_; rotate_left; (focus (intro w hSw; (try dsimp only at hSw); go_simp; (try with_reducible rfl))); (try simp only [Act.put, List.setIfInBounds_toArray, List.set_cons_zero, List.set_cons_succ])
            refine takeT 68 (i := 20) (v := ?_) hQ' hHeld rfl (by kernel_rfl) (by kernel_rfl) (by kernel_rfl) (by kernel_rfl) (by kernel_rfl) ?_ ?_; rotate_left; (focus (intro w hSw; (try dsimp only at hSw); go_simp; (try with_reducible rfl))); (try simp only [Act.put, List.setIfInBounds_toArray, List.set_cons_zero, List.set_cons_succ])
            refine takeT 69 (i := 21) (v := ?_) hQ' hHeld rfl (by kernel_rfl) (by kernel_rfl) (by kernel_rfl) (by kernel_rfl) (by kernel_rfl) ?_ ?_; rotate_left; (focus (intro w hSw; (try dsimp only at hSw); go_simp; (try with_reducible rfl))); (try simp only [Act.put, List.setIfInBounds_toArray, List.set_cons_zero, List.set_cons_succ])
            refine takeT 70 (i := 22) (v := ?_) hQ' hHeld rfl (by kernel_rfl) (by kernel_rfl) (by kernel_rfl) (by kernel_rfl) (by kernel_rfl) ?_ ?_; rotate_left; (focus (intro w hSw; (try dsimp only at hSw); go_simp; (try with_reducible rfl))); (try simp only [Act.put, List.setIfInBounds_toArray, List.set_cons_zero, List.set_cons_succ])
            refine takeT 71 (i := 23) (v := ?_) hQ' hHeld rfl (by kernel_rfl) (by kernel_rfl) (by kernel_rfl) (by kernel_rfl) (by kernel_rfl) ?_ ?_; rotate_left; (focus (intro w hSw; (try dsimp only at hSw); go_simp; (try with_reducible rfl))); (try simp only [Act.put, List.setIfInBounds_toArray, List.set_cons_zero, List.set_cons_succ])
            refine takeT 72 (i := 24) (v := ?_) hQ' hHeld rfl (by kernel_rfl) (by kernel_rfl) (by kernel_rfl) (by kernel_rfl) (by kernel_rfl) ?_ ?_; rotate_left; (focus (intro w hSw; (try dsimp only at hSw); go_simp; (try with_reducible rfl))); (try simp only [Act.put, List.setIfInBounds_toArray, List.set_cons_zero, List.set_cons_succ])
            refine takeT 73 (i := 25) (v := ?_) hQ' hHeld rfl (by kernel_rfl) (by kernel_rfl) (by kernel_rfl) (by kernel_rfl) (by kernel_rfl) ?_ ?_; rotate_left; (focus (intro w hSw; (try dsimp only at hSw); go_simp; (try with_reducible rfl))); (try simp only [Act.put, List.setIfInBounds_toArray, List.set_cons_zero, List.set_cons_succ])
            refine takeT 74 (i := 26) (v := ?_) hQ' hHeld rfl (by kernel_rfl) (by kernel_rfl) (by kernel_rfl) (by kernel_rfl) (by kernel_rfl) ?_ ?_; rotate_left; (focus (intro w hSw; (try dsimp only at hSw); go_simp; (try with_reducible rfl))); (try simp only [Act.put, List.setIfInBounds_toArray, List.set_cons_zero, List.set_cons_succ])
            refine takeT 75 (i := 27) (v := ?_) hQ' hHeld rfl (by kernel_rfl) (by kernel_rfl) (by kernel_rfl) (by kernel_rfl) (by kernel_rfl) ?_ ?_; rotate_left; (focus (intro w hSw; (try dsimp only at hSw); go_simp; (try with_reducible rfl))); (try simp only [Act.put, List.setIfInBounds_toArray, List.set_cons_zero, List.set_cons_succ])
            refine takeT 76 (i := 28) (v := ?_) hQ' hHeld rfl (by kernel_rfl) (by kernel_rfl) (by kernel_rfl) (by kernel_rfl) (by kernel_rfl) ?_ ?_; rotate_left; (focus (intro w hSw; (try dsimp only at hSw); go_simp; (try with_reducible rfl))); (try simp only [Act.put, List.setIfInBounds_toArray, List.set_cons_zero, List.set_cons_succ])
            refine takeT 77 (i := 29) (v := ?_) hQ' hHeld rfl (by kernel_rfl) (by kernel_rfl) (by kernel_rfl) (by kernel_rfl) (by kernel_rfl) ?_ ?_; rotate_left; (focus (intro w hSw; (try dsimp only at hSw); go_simp; (try with_reducible rfl))); (try simp only [Act.put, List.setIfInBounds_toArray, List.set_cons_zero, List.set_cons_succ])
            refine takeT 78 (i := 30) (v := ?_) hQ' hHeld rfl (by kernel_rfl) (by kernel_rfl) (by kernel_rfl) (by kernel_rfl) (by kernel_rfl) ?_ ?_; rotate_left; (focus (intro w hSw; (try dsimp only at hSw); go_simp; (try with_reducible rfl))); (try simp only [Act.put, List.setIfInBounds_toArray, List.set_cons_zero, List.set_cons_succ])
            refine wpAnyH_ready (rs := [31]) (by kernel_rfl) (by simp) ?_
            refine consW (i := 31) rfl (by kernel_rfl) (fun K hK => ?_)
            go_simp
            refine (order_lt z u _ HZ.out hR0 HU.out hR1 HO2.out).mono ?_
            rintro e w' ⟨rfl, hBx⟩
            go_simp
            refine hK.out _ _ ?_ (fun hHeld => ?_)
            · exact keep4 hHeld hBx
            clear hK K
            (try simp only [Act.put, List.setIfInBounds_toArray, List.set_cons_zero, List.set_cons_succ])
            refine takeT 80 (i := 32) (v := ?_) hQ' hHeld rfl (by kernel_rfl) (by kernel_rfl) (by kernel_rfl) (by kernel_rfl) (by kernel_rfl) ?_ ?_; rotate_left; (focus (intro w hSw; (try dsimp only at hSw); go_simp; (try with_reducible rfl))); (try simp only [Act.put, List.setIfInBounds_toArray, List.set_cons_zero, List.set_cons_succ])
            refine takeT 81 (i := 33) (v := ?_) hQ' hHeld rfl (by kernel_rfl) (by kernel_rfl) (by kernel_rfl) (by kernel_rfl) (by kernel_rfl) ?_ ?_; rotate_left; (focus (intro w hSw; (try dsimp only at hSw); go_simp; (try with_reducible rfl))); (try simp only [Act.put, List.setIfInBounds_toArray, List.set_cons_zero, List.set_cons_succ])
            refine takeT 82 (i := 34) (v := ?_) hQ' hHeld rfl (by kernel_rfl) (by kernel_rfl) (by kernel_rfl) (by kernel_rfl) (by kernel_rfl) ?_ ?_; rotate_left; (focus (intro w hSw; (try dsimp only at hSw); go_simp; (try with_reducible rfl))); (try simp only [Act.put, List.setIfInBounds_toArray, List.set_cons_zero, List.set_cons_succ])
            refine wpAnyH_done (by kernel_rfl) ?_ _
            refine hN.out _ _ ?_
            go_wp2_with fail
            go_roundw
            case rel => exact ⟨j + 1, by omega, by go_num, hHeld.2.2.2.2, hHeld.2.2.1⟩
            case measure => simp [intOf]; omega
end Go.Proofs.YtjpigaobeegbgaaGreatDoor
