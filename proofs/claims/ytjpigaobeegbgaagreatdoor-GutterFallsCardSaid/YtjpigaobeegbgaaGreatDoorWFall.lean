/- Walks: gutter.Fall at outlets that are short numbers. -/
import Derived.Test.YtjpigaobeegbgaaGreatDoorWSpacing
import Derived.Test.YtjpigaobeegbgaaGreatDoorWEven
set_option linter.unusedVariables false
set_option linter.unusedSimpArgs false
namespace Go.Proofs.YtjpigaobeegbgaaGreatDoor
open Go.RowKit Go.Shelf
theorem RetN.s {q : Rat} {w : World} {e : Ending} {w' : World} (h : RetN q w e w') : e = .returned (.tuple #[.string (numS q), .int .i64 0]) ∧ Below w.heap.size w w' := by
  obtain ⟨r, hr, rfl, hB⟩ := h
  exact ⟨by rw [numS_of hr], hB⟩
theorem gnumber_s (n : Int) (w : World) (hG : Glo w) (h0 : -9223372036854775808 ≤ n) (h1 : n ≤ 9223372036854775807) :
    Calls Tryz.prog 60 #[.int .i64 n] w (RetB (.string (numS (n : Rat))) w) :=
  (gnumber_any n w hG h0 h1).mono fun _ _ ⟨_, hr, he, hB⟩ => ⟨by rw [he, numS_of hr], hB⟩
theorem small_int {n : Int} (h0 : 0 ≤ n) (h1 : n ≤ 65536) : Small (n : Rat) := ⟨by rw [Rat.num_intCast]; omega, by rw [Rat.den_intCast]; omega⟩
theorem cmpQ_pos {p q : Rat} : 0 < cmpQ p q ↔ q < p := by
  constructor
  · intro h
    have h1 : ¬ p < q := fun h' => by have := cmpQ_neg.2 h'; omega
    have h2 : p ≠ q := fun h' => by have := cmpQ_zero.2 h'; omega
    exact (Rat.lt_of_le_of_ne (Rat.not_lt.1 h1) (Ne.symm h2))
  · intro h
    have h1 : ¬ cmpQ p q < 0 := fun h' => absurd (cmpQ_neg.1 h') (Rat.not_lt.2 (Rat.le_of_lt h))
    have h2 : cmpQ p q ≠ 0 := fun h' => by rw [cmpQ_zero.1 h'] at h; exact Rat.lt_irrefl h
    omega
/-- the greater one -/
def maxQ (m t : Rat) : Rat := if m < t then t else m
/-- the greatest of a number and the first ones of a list -/
def mostTo (B : Rat) (T : List Rat) (k : Nat) : Rat := (T.take k).foldl maxQ B
theorem mostTo_succ (B : Rat) (T : List Rat) {k : Nat} (h : k < T.length) : mostTo B T (k + 1) = maxQ (mostTo B T k) T[k] := by
  unfold mostTo; rw [List.take_succ_eq_append_getElem h, List.foldl_append]; rfl
theorem mostTo_small {B : Rat} {T : List Rat} (hB : Small B) (hT : ∀ k (h : k < T.length), Small T[k]) : ∀ k, k ≤ T.length → Small (mostTo B T k) := by
  intro k
  induction k with
  | zero => intro _; exact hB
  | succ k ih =>
    intro hk
    rw [mostTo_succ B T (by omega)]
    unfold maxQ
    split
    · exact hT k (by omega)
    · exact ih (by omega)
/-- halves of the first gaps -/
def halvesTo (l : List Rat) (m : Nat) : List Rat := (List.range m).map (fun j => (l.getD (j + 1) 0 - l.getD j 0) / 2)
theorem halvesTo_succ (l : List Rat) (m : Nat) : halvesTo l (m + 1) = halvesTo l m ++ [(l.getD (m + 1) 0 - l.getD m 0) / 2] := by simp [halvesTo, List.range_succ]
theorem halvesTo_length (l : List Rat) (m : Nat) : (halvesTo l m).length = m := by simp [halvesTo]
/-- the ways behind the first one -/
def waysOf (l : List Rat) (hi : Int) : List Rat := halvesTo l (l.length - 1) ++ [(hi : Rat) - l.getD (l.length - 1) 0]
/-- what a fall asks of its outlets -/
structure FallOk (l : List Rat) (lo hi : Int) : Prop where
  poss : Poss l
  ne : 1 ≤ l.length
  l0 : 0 ≤ lo
  lh : lo ≤ hi
  h2 : hi ≤ 200
  inR : ∀ k (h : k < l.length), (lo : Rat) ≤ l[k] ∧ l[k] ≤ (hi : Rat)
  sb : Small (l.getD 0 0 - (lo : Rat))
  sg : ∀ j, j + 1 < l.length → Small (l.getD (j + 1) 0 - l.getD j 0)
  sw : ∀ k (h : k < (waysOf l hi).length), Small (waysOf l hi)[k]
def fallOf (l : List Rat) (lo hi : Int) : Rat := mostTo (l.getD 0 0 - (lo : Rat)) (waysOf l hi) (waysOf l hi).length
theorem fall_two : ratText (2 : Rat) = [50] := by decide +kernel
theorem fall_small2 : Small (2 : Rat) := ⟨by decide, by decide⟩
theorem gaps_get {l : List Rat} {k : Nat} (h : k < l.length - 1) (h' : k < (gapsTo l (l.length - 1)).length) : (gapsTo l (l.length - 1))[k] = l.getD (k + 1) 0 - l.getD k 0 := by simp [gapsTo]
set_option maxRecDepth 100000 in
set_option maxHeartbeats 6400000 in
theorem fall_ok (P : List Ring) (u : Value) (w : World) (r0 i0 n : Nat) (lo hi per : Int) (l : List Rat) (v : Value) (hG : Glo w) (hv : IsPlan w (.agg #[u]) P) (hval : Valid P) (hs : AtSide P n r0 i0 lo hi) (hvl : IsStrs w v (l.map numS)) (hf : FallOk l lo hi) (hp0 : 1 ≤ per) (hp1 : per ≤ 65536) :
    Calls Tryz.prog 24 #[.agg #[u, .slice none 0 0, .slice none 0 0, .slice none 0 0], .int .i64 n, v, .int .i64 per] w (RetB (.tuple #[.string (numS (fallOf l lo hi / (per : Rat))), .int .i64 0]) w) := by
  have hper0 : (per : Rat) ≠ 0 := by
    intro h
    have : per = 0 := by exact_mod_cast h
    omega
  have HCK := Lib.hid (fun W (hB : Below w.heap.size w W) => pcheck_ok P _ W (hv.below hB) hval)
  have HSC := Lib.hid (fun W (hB : Below w.heap.size w W) => spCheck_ok l v W (hG.below hB) (hvl.below hB) hf.poss)
  have HE := Lib.hid (fun W (hB : Below w.heap.size w W) => (by have h := eaves_ok P _ W r0 i0 n (hv.below hB) hval hs.hr hs.hi0 hs.at_ hs.gab; rw [hs.lo_, hs.hi_] at h; exact h : Calls Tryz.prog 38 #[.agg #[u], .int .i64 n, .bool true] W (Ret3 lo hi 0 W)))
  have hlh' : (lo : Rat) ≤ (hi : Rat) := by exact_mod_cast hf.lh
  have hh65 : hi ≤ 65536 := by have := hf.h2; omega
  have h0hi : 0 ≤ hi := by have := hf.l0; have := hf.lh; omega
  have HW := Lib.hid (fun W (hB : Below w.heap.size w W) => within_ok l v W (hG.below hB) (hvl.below hB) hf.poss hlh' (small_int hf.l0 (by have := hf.lh; omega)) (small_int h0hi hh65) hf.inR)
  have HGP := Lib.hid (fun W (hB : Below w.heap.size w W) => gaps_ok l v W (hG.below hB) (hvl.below hB) hf.poss hf.ne)
  have HGN := Lib.hid (fun W (hB : Below w.heap.size w W) (x : Int) h0 h1 => gnumber_s x W (hG.below hB) h0 h1)
  have hSB := Lib.hid (fun W (hB : Below w.heap.size w W) => (Sub_small (p := l.getD 0 0) (q := (lo : Rat)) (numS (l.getD 0 0)) (numS (lo : Rat)) W (hG.below hB) (numS_list _) (by rw [getD_eq hf.ne]; exact hf.poss.small 0 hf.ne) (numS_list _) (small_int hf.l0 (by have := hf.lh; omega))).mono fun _ _ h => h.s)
  have hlast : l.length - 1 < l.length := by have := hf.ne; omega
  have hSE := Lib.hid (fun W (hB : Below w.heap.size w W) => (Sub_small (p := (hi : Rat)) (q := l.getD (l.length - 1) 0) (numS (hi : Rat)) (numS (l.getD (l.length - 1) 0)) W (hG.below hB) (numS_list _) (small_int h0hi hh65) (numS_list _) (by rw [getD_eq hlast]; exact hf.poss.small _ hlast)).mono fun _ _ h => h.s)
  have HDV := Lib.hid (fun W (hB : Below w.heap.size w W) j (hj : j + 1 < l.length) => (Div_small (p := l.getD (j + 1) 0 - l.getD j 0) (q := 2) (numS (l.getD (j + 1) 0 - l.getD j 0)) ⟨#[50]⟩ W (hG.below hB) (numS_list _) (hf.sg j hj) fall_two.symm fall_small2 (by decide)).mono fun _ _ h => h.s)
  have HDP := Lib.hid (fun W (hB : Below w.heap.size w W) (q : Rat) (hq : Small q) => (Div_small (p := q) (q := (per : Rat)) (numS q) (numS (per : Rat)) W (hG.below hB) (numS_list _) hq (numS_list _) (small_int (by omega) hp1) hper0).mono fun _ _ h => h.s)
  have HF := Lib.hid hf
  obtain ⟨a, nl, cap, rfl⟩ : ∃ a n cap, v = .slice a n cap := by obtain ⟨a, cap, h, _⟩ := hvl; exact ⟨_, _, _, h⟩
  obtain ⟨rfl, hc⟩ := strs_cells hvl
  have hl1 := hf.ne
  have hl2 := hf.poss.len
  have hlo0 := hf.l0
  have hlh := hf.lh
  obtain ⟨b, off, rfl, hcell⟩ := hc (by intro h; rw [h] at hl1; simp at hl1)
  have HC := Lib.hid (fun W (hB : Below w.heap.size w W) k (hk : k < l.length) => (by rw [getD_eq hk]; exact keep hB (hcell k hk) : W.cell? ⟨b, off + k, none⟩ = some (.string (numS (l.getD k 0)))))
  obtain ⟨iN, hi0, hz0, hz1, hz2⟩ := info_parts Tryz.infoNum
  obtain ⟨u', hu', hu⟩ := hv
  obtain ⟨ad, pcap, rfl, h⟩ := hu
  cases hu'
  have hG' := Lib.hid hG
  clear h hval hs hvl hf hc hcell hG hlh' hlast hper0
  have hl0I : ((l.length : Int) == 0) = false := by rw [beq_eq_false_iff_ne]; omega
  go_enter Tryz.func24, Tryz.ntmps24
  go_wp2_with fail
  refine (HCK.out _ (by repeat (first | (with_reducible first | exact Below.refl _ _ | refine Below.setCell ?_ ?_ _ | refine below_drewN ?_ _ | refine Below.drew ?_ | refine below_alloc ?_ _ | refine below_trans'' (by assumption) ?_) | exact Nat.le_refl _ | (focus (simp; done)) | (focus (simp; omega)) | omega))).mono ?_
  rintro e w1 ⟨rfl, hB1⟩
  have k0 : w1.cell? ⟨w.heap.size, 0, none⟩ = some (.slice ad P.length pcap) := keep hB1 (by simp [go_sem])
  have hb1 : Below w.heap.size w w1 := (by repeat (first | (with_reducible first | exact Below.refl _ _ | refine Below.setCell ?_ ?_ _ | refine below_drewN ?_ _ | refine Below.drew ?_ | refine below_alloc ?_ _ | refine below_trans'' (by assumption) ?_) | exact Nat.le_refl _ | (focus (simp; done)) | (focus (simp; omega)) | omega))
  clear hB1 HCK
  go_wp2_with fail
  refine (HSC.out _ hb1).mono ?_
  rintro e w2 ⟨rfl, hB2⟩
  have k0 := keep hB2 k0
  have hb2 : Below w.heap.size w w2 := below_trans' hb1 hB2
  clear hB2 HSC hb1
  go_wp2_with fail
  refine (HE.out _ hb2).mono ?_
  rintro e w3 ⟨rfl, hB3⟩
  have hb3 : Below w.heap.size w w3 := below_trans' hb2 hB3
  clear hB3 HE hb2 k0
  go_wp2_with fail
  refine (HGN.out _ hb3 lo (by omega) (by omega)).mono ?_
  rintro e w4 ⟨rfl, hB4⟩
  have hb4 : Below w.heap.size w w4 := below_trans' hb3 hB4
  clear hB4 hb3
  go_wp2_with fail
  refine (HGN.out _ hb4 hi (by omega) (by omega)).mono ?_
  rintro e w5 ⟨rfl, hB5⟩
  have hb5 : Below w.heap.size w w5 := below_trans' hb4 hB5
  clear hB5 hb4
  go_wp2_with fail
  refine (HW.out _ hb5).mono ?_
  rintro e w6 ⟨aw, cw, rfl, hB6⟩
  have hb6 : Below w.heap.size w w6 := below_trans' hb5 hB6
  clear hB6 hb5 HW
  obtain ⟨x0, hx0⟩ : ∃ x, numS (l.getD 0 0) = x := ⟨_, rfl⟩
  obtain ⟨xl, hxl⟩ : ∃ x, numS (lo : Rat) = x := ⟨_, rfl⟩
  obtain ⟨xb, hxb⟩ : ∃ x, numS (l.getD 0 0 - (lo : Rat)) = x := ⟨_, rfl⟩
  rw [hx0, hxl, hxb] at hSB
  have HNL := Lib.hid (fun W (hB : Below w.heap.size w W) => (by have h := HGN.out W hB lo (by omega) (by omega); rw [hxl] at h; exact h : Calls Tryz.prog 60 #[.int .i64 lo] W (RetB (.string xl) W)))
  have hR : w6.drew.cell? ⟨b, off, none⟩ = some (.string x0) ∧ Below w.heap.size w w6.drew := ⟨by have h := HC.out _ (hb6.trans ((Below.refl _ _).drew.mono hb6.size)) 0 (by omega); rw [hx0] at h; exact h, hb6.trans ((Below.refl _ _).drew.mono hb6.size)⟩
  have h00 : (0 : Int) < (l.length : Int) := by omega
  have h0N : 0 < l.length := by omega
  have HXB := Lib.hid hxb
  clear hx0 hxl hxb
  go_wp2_with fail
  clear hb6
  refine region_S (F := []) (R := (fun w' => w'.cell? ⟨b, off, none⟩ = some (.string x0) ∧ Below w.heap.size w w')) 11 #[false, false, false, false, false, false, false, false, false, false, false] (by kernel_rfl) (by kernel_rfl) (by kernel_rfl) (fun _ _ _ _ _ h => h) (fun Q' hQ' hN => ?_)
  generalize w6.drew = wd at *
  refine takeS 75 (i := 0) (v := ?_) (fw := 4) hQ' hR rfl (by kernel_rfl) (by kernel_rfl) (by kernel_rfl) (by kernel_rfl) (by kernel_rfl) (by kernel_rfl) ?_ ?_; rotate_left; (focus (intro wq hRq; obtain ⟨c0, _⟩ := hRq; go_simp; (try with_reducible rfl))); (try simp only [Act.put, List.setIfInBounds_toArray, List.set_cons_zero, List.set_cons_succ])
  refine takeS 76 (i := 1) (v := ?_) (fw := 4) hQ' hR rfl (by kernel_rfl) (by kernel_rfl) (by kernel_rfl) (by kernel_rfl) (by kernel_rfl) (by kernel_rfl) ?_ ?_; rotate_left; (focus (intro wq hRq; obtain ⟨c0, _⟩ := hRq; go_simp; (try with_reducible rfl))); (try simp only [Act.put, List.setIfInBounds_toArray, List.set_cons_zero, List.set_cons_succ])
  refine takeS 77 (i := 2) (v := ?_) (fw := 4) hQ' hR rfl (by kernel_rfl) (by kernel_rfl) (by kernel_rfl) (by kernel_rfl) (by kernel_rfl) (by kernel_rfl) ?_ ?_; rotate_left; (focus (intro wq hRq; obtain ⟨c0, _⟩ := hRq; go_simp; (try with_reducible rfl))); (try simp only [Act.put, List.setIfInBounds_toArray, List.set_cons_zero, List.set_cons_succ])
  refine takeS 78 (i := 3) (v := ?_) (fw := 4) hQ' hR rfl (by kernel_rfl) (by kernel_rfl) (by kernel_rfl) (by kernel_rfl) (by kernel_rfl) (by kernel_rfl) ?_ ?_; rotate_left; (focus (intro wq hRq; obtain ⟨c0, _⟩ := hRq; go_simp; (try with_reducible rfl))); (try simp only [Act.put, List.setIfInBounds_toArray, List.set_cons_zero, List.set_cons_succ])
  refine wpAnyS_ready (rs := [4]) (by kernel_rfl) (by simp) ?_
  refine stepR (i := 4) rfl (by kernel_rfl) (fun K hK => ?_) (AllReadyS.nil)
  go_simp
  refine (HNL.out _ hR.2).mono ?_
  rintro e wn ⟨rfl, hB'⟩
  have hR : wn.cell? ⟨b, off, none⟩ = some (.string x0) ∧ Below w.heap.size w wn := ⟨keep hB' hR.1, below_trans' hR.2 hB'⟩
  refine hK.out _ _ hR ?_
  clear hK K
  (try simp only [Act.put, List.setIfInBounds_toArray, List.set_cons_zero, List.set_cons_succ])
  refine wpAnyS_ready (rs := [5]) (by kernel_rfl) (by simp) ?_
  refine stepR (i := 5) rfl (by kernel_rfl) (fun K hK => ?_) (AllReadyS.nil)
  go_simp
  refine (hSB.out _ hR.2).mono ?_
  rintro e wn ⟨rfl, hB'⟩
  have hR : wn.cell? ⟨b, off, none⟩ = some (.string x0) ∧ Below w.heap.size w wn := ⟨keep hB' hR.1, below_trans' hR.2 hB'⟩
  refine hK.out _ _ hR ?_
  clear hK K
  (try simp only [Act.put, List.setIfInBounds_toArray, List.set_cons_zero, List.set_cons_succ])
  refine takeS 74 (i := 6) (v := ?_) (fw := 4) hQ' hR rfl (by kernel_rfl) (by kernel_rfl) (by kernel_rfl) (by kernel_rfl) (by kernel_rfl) (by kernel_rfl) ?_ ?_; rotate_left; (focus (intro wq hRq; obtain ⟨c0, _⟩ := hRq; go_simp; (try with_reducible rfl))); (try simp only [Act.put, List.setIfInBounds_toArray, List.set_cons_zero, List.set_cons_succ])
  refine takeS 81 (i := 7) (v := ?_) (fw := 4) hQ' hR rfl (by kernel_rfl) (by kernel_rfl) (by kernel_rfl) (by kernel_rfl) (by kernel_rfl) (by kernel_rfl) ?_ ?_; rotate_left; (focus (intro wq hRq; obtain ⟨c0, _⟩ := hRq; go_simp; (try with_reducible rfl))); (try simp only [Act.put, List.setIfInBounds_toArray, List.set_cons_zero, List.set_cons_succ])
  refine takeS 82 (i := 8) (v := ?_) (fw := 4) hQ' hR rfl (by kernel_rfl) (by kernel_rfl) (by kernel_rfl) (by kernel_rfl) (by kernel_rfl) (by kernel_rfl) ?_ ?_; rotate_left; (focus (intro wq hRq; obtain ⟨c0, _⟩ := hRq; go_simp; (try with_reducible rfl))); (try simp only [Act.put, List.setIfInBounds_toArray, List.set_cons_zero, List.set_cons_succ])
  refine takeS 14 (i := 9) (v := ?_) (fw := 4) hQ' hR rfl (by kernel_rfl) (by kernel_rfl) (by kernel_rfl) (by kernel_rfl) (by kernel_rfl) (by kernel_rfl) ?_ ?_; rotate_left; (focus (intro wq hRq; obtain ⟨c0, _⟩ := hRq; go_simp; (try with_reducible rfl))); (try simp only [Act.put, List.setIfInBounds_toArray, List.set_cons_zero, List.set_cons_succ])
  refine takeS 12 (i := 10) (v := ?_) (fw := 4) hQ' hR rfl (by kernel_rfl) (by kernel_rfl) (by kernel_rfl) (by kernel_rfl) (by kernel_rfl) (by kernel_rfl) ?_ ?_; rotate_left; (focus (intro wq hRq; obtain ⟨c0, _⟩ := hRq; go_simp; (try with_reducible rfl))); (try simp only [Act.put, List.setIfInBounds_toArray, List.set_cons_zero, List.set_cons_succ])
  refine wpAnyS_done (by kernel_rfl) ?_ _
  refine hN.out _ _ ?_
  have hb7 := hR.2
  clear hR hSB HNL
  obtain ⟨m, hm⟩ : ∃ m, l.length = m + 1 := ⟨l.length - 1, by omega⟩
  have hkj : (l.length : Int) - 1 = (m : Int) := by omega
  have hmw : IntKind.i64.wrap (m : Int) = (m : Int) := IntWalk.i64_in _ (by omega)
  have hml : (m : Int) < (l.length : Int) := by omega
  have hm1 : l.length - 1 = m := by omega
  rw [hm1] at hSE
  obtain ⟨xq, hxq⟩ : ∃ x, numS (l.getD m 0) = x := ⟨_, rfl⟩
  obtain ⟨xh, hxh⟩ : ∃ x, numS (hi : Rat) = x := ⟨_, rfl⟩
  obtain ⟨xe, hxe⟩ : ∃ x, numS ((hi : Rat) - l.getD m 0) = x := ⟨_, rfl⟩
  rw [hxq, hxh, hxe] at hSE
  have HNH := Lib.hid (fun W (hB : Below w.heap.size w W) => (by have h := HGN.out W hB hi (by omega) (by omega); rw [hxh] at h; exact h : Calls Tryz.prog 60 #[.int .i64 hi] W (RetB (.string xh) W)))
  have hR : wn.drew.cell? ⟨b, off + m, none⟩ = some (.string xq) ∧ Below w.heap.size w wn.drew := ⟨by have h := HC.out _ (hb7.trans ((Below.refl _ _).drew.mono hb7.size)) m (by omega); rw [hxq] at h; exact h, hb7.trans ((Below.refl _ _).drew.mono hb7.size)⟩
  have HXE := Lib.hid hxe
  have HM := Lib.hid hm
  have HM1 := Lib.hid hm1
  clear hxq hxh hxe hm hm1
  go_wp2_with fail
  clear hb7
  refine region_S (F := []) (R := (fun w' => w'.cell? ⟨b, off + m, none⟩ = some (.string xq) ∧ Below w.heap.size w w')) 14 #[false, false, false, false, false, false, false, false, false, false, false, false, false, false] (by kernel_rfl) (by kernel_rfl) (by kernel_rfl) (fun _ _ _ _ _ h => h) (fun Q' hQ' hN => ?_)
  generalize wn.drew = wz at *
  refine takeS 87 (i := 0) (v := ?_) (fw := 4) hQ' hR rfl (by kernel_rfl) (by kernel_rfl) (by kernel_rfl) (by kernel_rfl) (by kernel_rfl) (by kernel_rfl) ?_ ?_; rotate_left; (focus (intro wq hRq; obtain ⟨c0, _⟩ := hRq; go_simp; (try with_reducible rfl))); (try simp only [Act.put, List.setIfInBounds_toArray, List.set_cons_zero, List.set_cons_succ])
  refine takeS 89 (i := 2) (v := ?_) (fw := 4) hQ' hR rfl (by kernel_rfl) (by kernel_rfl) (by kernel_rfl) (by kernel_rfl) (by kernel_rfl) (by kernel_rfl) ?_ ?_; rotate_left; (focus (intro wq hRq; obtain ⟨c0, _⟩ := hRq; go_simp; (try with_reducible rfl))); (try simp only [Act.put, List.setIfInBounds_toArray, List.set_cons_zero, List.set_cons_succ])
  refine takeS 90 (i := 3) (v := ?_) (fw := 4) hQ' hR rfl (by kernel_rfl) (by kernel_rfl) (by kernel_rfl) (by kernel_rfl) (by kernel_rfl) (by kernel_rfl) ?_ ?_; rotate_left; (focus (intro wq hRq; obtain ⟨c0, _⟩ := hRq; go_simp; (try with_reducible rfl))); (try simp only [Act.put, List.setIfInBounds_toArray, List.set_cons_zero, List.set_cons_succ])
  refine takeS 91 (i := 4) (v := ?_) (fw := 4) hQ' hR rfl (by kernel_rfl) (by kernel_rfl) (by kernel_rfl) (by kernel_rfl) (by kernel_rfl) (by kernel_rfl) ?_ ?_; rotate_left; (focus (intro wq hRq; obtain ⟨c0, _⟩ := hRq; go_simp; (try with_reducible rfl))); (try simp only [Act.put, List.setIfInBounds_toArray, List.set_cons_zero, List.set_cons_succ])
  refine takeS 92 (i := 5) (v := ?_) (fw := 4) hQ' hR rfl (by kernel_rfl) (by kernel_rfl) (by kernel_rfl) (by kernel_rfl) (by kernel_rfl) (by kernel_rfl) ?_ ?_; rotate_left; (focus (intro wq hRq; obtain ⟨c0, _⟩ := hRq; go_simp; (try with_reducible rfl))); (try simp only [Act.put, List.setIfInBounds_toArray, List.set_cons_zero, List.set_cons_succ])
  refine takeS 93 (i := 6) (v := ?_) (fw := 4) hQ' hR rfl (by kernel_rfl) (by kernel_rfl) (by kernel_rfl) (by kernel_rfl) (by kernel_rfl) (by kernel_rfl) ?_ ?_; rotate_left; (focus (intro wq hRq; obtain ⟨c0, _⟩ := hRq; go_simp; (try with_reducible rfl))); (try simp only [Act.put, List.setIfInBounds_toArray, List.set_cons_zero, List.set_cons_succ])
  refine takeS 94 (i := 7) (v := ?_) (fw := 4) hQ' hR rfl (by kernel_rfl) (by kernel_rfl) (by kernel_rfl) (by kernel_rfl) (by kernel_rfl) (by kernel_rfl) ?_ ?_; rotate_left; (focus (intro wq hRq; obtain ⟨c0, _⟩ := hRq; go_simp; (try with_reducible rfl))); (try simp only [Act.put, List.setIfInBounds_toArray, List.set_cons_zero, List.set_cons_succ])
  refine wpAnyS_ready (rs := [1]) (by kernel_rfl) (by simp) ?_
  refine stepR (i := 1) rfl (by kernel_rfl) (fun K hK => ?_) (AllReadyS.nil)
  go_simp
  refine (HNH.out _ hR.2).mono ?_
  rintro e wn ⟨rfl, hB'⟩
  have hR : wn.cell? ⟨b, off + m, none⟩ = some (.string xq) ∧ Below w.heap.size w wn := ⟨keep hB' hR.1, below_trans' hR.2 hB'⟩
  refine hK.out _ _ hR ?_
  clear hK K
  (try simp only [Act.put, List.setIfInBounds_toArray, List.set_cons_zero, List.set_cons_succ])
  refine wpAnyS_ready (rs := [8]) (by kernel_rfl) (by simp) ?_
  refine stepR (i := 8) rfl (by kernel_rfl) (fun K hK => ?_) (AllReadyS.nil)
  go_simp
  refine (hSE.out _ hR.2).mono ?_
  rintro e wn ⟨rfl, hB'⟩
  have hR : wn.cell? ⟨b, off + m, none⟩ = some (.string xq) ∧ Below w.heap.size w wn := ⟨keep hB' hR.1, below_trans' hR.2 hB'⟩
  refine hK.out _ _ hR ?_
  clear hK K
  (try simp only [Act.put, List.setIfInBounds_toArray, List.set_cons_zero, List.set_cons_succ])
  refine takeS 86 (i := 9) (v := ?_) (fw := 4) hQ' hR rfl (by kernel_rfl) (by kernel_rfl) (by kernel_rfl) (by kernel_rfl) (by kernel_rfl) (by kernel_rfl) ?_ ?_; rotate_left; (focus (intro wq hRq; obtain ⟨c0, _⟩ := hRq; go_simp; (try with_reducible rfl))); (try simp only [Act.put, List.setIfInBounds_toArray, List.set_cons_zero, List.set_cons_succ])
  refine takeS 96 (i := 10) (v := ?_) (fw := 4) hQ' hR rfl (by kernel_rfl) (by kernel_rfl) (by kernel_rfl) (by kernel_rfl) (by kernel_rfl) (by kernel_rfl) ?_ ?_; rotate_left; (focus (intro wq hRq; obtain ⟨c0, _⟩ := hRq; go_simp; (try with_reducible rfl))); (try simp only [Act.put, List.setIfInBounds_toArray, List.set_cons_zero, List.set_cons_succ])
  refine takeS 97 (i := 11) (v := ?_) (fw := 4) hQ' hR rfl (by kernel_rfl) (by kernel_rfl) (by kernel_rfl) (by kernel_rfl) (by kernel_rfl) (by kernel_rfl) ?_ ?_; rotate_left; (focus (intro wq hRq; obtain ⟨c0, _⟩ := hRq; go_simp; (try with_reducible rfl))); (try simp only [Act.put, List.setIfInBounds_toArray, List.set_cons_zero, List.set_cons_succ])
  refine takeS 15 (i := 12) (v := ?_) (fw := 4) hQ' hR rfl (by kernel_rfl) (by kernel_rfl) (by kernel_rfl) (by kernel_rfl) (by kernel_rfl) (by kernel_rfl) ?_ ?_; rotate_left; (focus (intro wq hRq; obtain ⟨c0, _⟩ := hRq; go_simp; (try with_reducible rfl))); (try simp only [Act.put, List.setIfInBounds_toArray, List.set_cons_zero, List.set_cons_succ])
  refine takeS 12 (i := 13) (v := ?_) (fw := 4) hQ' hR rfl (by kernel_rfl) (by kernel_rfl) (by kernel_rfl) (by kernel_rfl) (by kernel_rfl) (by kernel_rfl) ?_ ?_; rotate_left; (focus (intro wq hRq; obtain ⟨c0, _⟩ := hRq; go_simp; (try with_reducible rfl))); (try simp only [Act.put, List.setIfInBounds_toArray, List.set_cons_zero, List.set_cons_succ])
  refine wpAnyS_done (by kernel_rfl) ?_ _
  refine hN.out _ _ ?_
  have hb8 := hR.2
  clear hR hSE HNH
  go_wp2_with fail
  refine (HGP.out _ hb8).mono ?_
  rintro e w9 ⟨vg, rfl, hrg, hB9⟩
  have hb9 : Below w.heap.size w w9 := below_trans' hb8 hB9
  have hsg := isStrs_row hrg
  obtain ⟨sg, ng, cg, rfl⟩ : ∃ a n cap, vg = .slice a n cap := by obtain ⟨a, cap, h, _⟩ := hsg; exact ⟨_, _, _, h⟩
  obtain ⟨hng, hcg⟩ := strs_cells hsg
  rw [gapsTo_length] at hng
  have hngm : ng = m := by omega
  subst hngm
  have HCG := Lib.hid hcg
  clear hsg hcg hrg hB9 hb8 HGP hng
  have HHV := Lib.hid (fun k => (by rw [halvesTo_succ]; unfold numVs; rw [← List.cons_append, List.map_append]; rfl : numVs ((l.getD 0 0 - (lo : Rat)) :: halvesTo l (k + 1)) = numVs ((l.getD 0 0 - (lo : Rat)) :: halvesTo l k) ++ [.string (numS ((l.getD (k + 1) 0 - l.getD k 0) / 2))]))
  have HST := Lib.hid (show (w9.alloc (.cells #[.string xb] 38)).ownsRow w9.heap.size 38 1 (.slice (some ⟨w9.heap.size, 0, none⟩) 1 1) 1 (numVs ((l.getD 0 0 - (lo : Rat)) :: halvesTo l 0)) from
    ⟨rfl, .inr ⟨_, _, _, rfl, Nat.le_refl _, World.alloc_heap_new w9 _, Nat.le_refl _, by unfold maxLen; omega, rfl, by rw [← HXB.out]; rfl⟩⟩)
  go_wp2_with fail
  go_loopw [17, 113] (fun s i wr => ∃ (k : Nat) (sa : Option Addr) (sc : Nat), k ≤ ng ∧ i = .int .i64 k ∧ s = .slice sa (k + 1) sc ∧ wr.ownsRow w9.heap.size 38 1 (.slice sa (k + 1) sc) (k + 1) (numVs ((l.getD 0 0 - (lo : Rat)) :: halvesTo l k)) ∧ Below w9.heap.size w9 wr) (fun _ i _ => ng - (intOf i).toNat)
  case atStart => exact ⟨0, some ⟨w9.heap.size, 0, none⟩, 1, by omega, rfl, rfl, HST.out, below_alloc (Below.refl _ _) _⟩
  case round =>
    obtain ⟨k, sa, sc, hk, rfl, rfl, hrow, hB⟩ := hrel
    have hbw := below_trans' hb9 hB
    by_cases hlt : k < ng
    · obtain ⟨gb, go, rfl, hgc⟩ := HCG.out (by intro h; have := congrArg List.length h; rw [gapsTo_length] at this; simp at this; omega)
      have cg0 := keep hB (hgc k (by rw [gapsTo_length]; omega))
      rw [gaps_get (by omega)] at cg0
      have hltI : (k : Int) < (ng : Int) := by omega
      have HROW := Lib.hid hrow
      have HTK := Lib.hid (HHV.out k)
      have HD := Lib.hid (HDV.out wr hbw k (by omega))
      obtain ⟨y, hy⟩ : ∃ y, numS (l.getD (k + 1) 0 - l.getD k 0) = y := ⟨_, rfl⟩
      obtain ⟨z, hz⟩ : ∃ y, numS ((l.getD (k + 1) 0 - l.getD k 0) / 2) = y := ⟨_, rfl⟩
      rw [hy] at cg0
      rw [hy, hz] at HD
      rw [hz] at HTK
      clear hy hz hgc hrow
      go_wp2_with fail
      refine HD.out.mono ?_
      rintro e w10 ⟨rfl, hB10⟩
      have hBC := below_trans' hB hB10
      have hrow4 := rowKeep HROW.out (fun j hj hjl => hB10.block j hjl)
      have HROW4 := Lib.hid (hrow4.alloc (.cells #[.string z] 38))
      have m1 := Lib.hid (show k + 1 + 1 ≤ maxLen by unfold maxLen; omega)
      have m2 := Lib.hid (show (k + 1 + 1) * 16 ≤ 140737488355328 by omega)
      have m3 := Lib.hid (show w9.heap.size ≤ (w10.alloc (.cells #[.string z] 38)).heap.size by simp; have := hBC.size; omega)
      have KEY := Lib.hid (fun (v' : Value) (W : World) (ho : W.ownsRow w9.heap.size 38 1 v' (k + 1 + 1) (numVs ((l.getD 0 0 - (lo : Rat)) :: halvesTo l k) ++ [.string z])) (hg : (w10.alloc (.cells #[.string z] 38)).grownBy W (Value.slice sa (k + 1) sc).ownBlock) => (⟨ho, num_grown hrow4 hBC hg⟩ : W.ownsRow w9.heap.size 38 1 v' (k + 1 + 1) (numVs ((l.getD 0 0 - (lo : Rat)) :: halvesTo l k) ++ [.string z]) ∧ Below w9.heap.size w9 W))
      clear hrow4 hBC hB hB10 HROW cg0 HD hbw
      go_wp2_with (at_builtin; refine wpList_append_own _ rfl _ _ 27 rfl w9.heap.size 38 iN (.string ⟨#[]⟩) 1 16 Tryz.underlying27 hi0 hz0 hz1 hz2 rfl (by decide) _ (k + 1) _ rfl HROW4.out ⟨w10.heap.size, 0, none⟩ 1 1 [.string z] rfl rfl (cell_one_new _ _ _) (by simp [Value.oneCell']) m1.out m2.out m3.out ?_; intro v' w5 hown' hgrow5 hnil5; have HK := Lib.hid (KEY.out v' w5 hown' hgrow5); obtain ⟨sa2, sc2, rfl, _⟩ := row_shape hown'; clear hown' hgrow5 hnil5)
      go_roundw
      case rel => exact ⟨k + 1, sa2, sc2, by omega, by go_num, rfl, by rw [HTK.out]; exact HK.out.1, HK.out.2⟩
      case measure => simp [intOf]; omega
    · have e : k = ng := by omega
      subst e
      have hrow4 := hrow
      have HROW4 := Lib.hid (hrow.alloc (.cells #[.string xe] 38))
      have m1 := Lib.hid (show k + 1 + 1 ≤ maxLen by unfold maxLen; omega)
      have m2 := Lib.hid (show (k + 1 + 1) * 16 ≤ 140737488355328 by omega)
      have m3 := Lib.hid (show w9.heap.size ≤ (wr.alloc (.cells #[.string xe] 38)).heap.size by simp; have := hB.size; omega)
      have HWY := Lib.hid (show numVs ((l.getD 0 0 - (lo : Rat)) :: halvesTo l k) ++ [.string xe] = numVs ((l.getD 0 0 - (lo : Rat)) :: waysOf l hi) by unfold waysOf; rw [HM1.out, ← HXE.out]; unfold numVs; rw [← List.cons_append, List.map_append]; rfl)
      have HWL := Lib.hid (show (waysOf l hi).length = k + 1 by unfold waysOf; rw [List.length_append, HM1.out, halvesTo_length]; rfl)
      have KEY := Lib.hid (fun (v' : Value) (W : World) (ho : W.ownsRow w9.heap.size 38 1 v' (k + 1 + 1) (numVs ((l.getD 0 0 - (lo : Rat)) :: halvesTo l k) ++ [.string xe])) (hg : (wr.alloc (.cells #[.string xe] 38)).grownBy W (Value.slice sa (k + 1) sc).ownBlock) => (by
        rw [HWY.out] at ho
        obtain ⟨g, cp, e⟩ := ownsRow_succ ho
        have hle : k + 1 + 1 ≤ cp := by
          rcases ho.2 with ⟨h, h0⟩ | ⟨g', cap', cur, h, _, _, h1, _⟩
          · omega
          · rw [e] at h; injection h with _ _ h3; omega
        have hst := isStrs_row (l := (l.getD 0 0 - (lo : Rat)) :: waysOf l hi) (by rw [List.length_cons, HWL.out]; exact ho)
        rw [e] at hst
        obtain ⟨_, hc⟩ := strs_cells hst
        obtain ⟨b', off', e2, hc⟩ := hc (by simp)
        injection e2 with e3
        injection e3 with e4 e5
        subst e4
        subst e5
        exact ⟨g, cp, e, hle, fun j hj => by have h := hc (j + 1) (by rw [List.length_cons]; omega); rw [Nat.zero_add] at h; simpa using h, below_trans' hb9 (num_grown hrow4 hB hg)⟩ : ∃ g cp, v' = .slice (some ⟨g, 0, none⟩) (k + 1 + 1) cp ∧ k + 1 + 1 ≤ cp ∧ (∀ j (hj : j < (waysOf l hi).length), W.cell? ⟨g, j + 1, none⟩ = some (.string (numS (waysOf l hi)[j]))) ∧ Below w.heap.size w W))
      clear hrow hrow4 hB hbw HCG HST HHV HDV
      go_wp2_with (at_builtin; refine wpList_append_own _ rfl _ _ 27 rfl w9.heap.size 38 iN (.string ⟨#[]⟩) 1 16 Tryz.underlying27 hi0 hz0 hz1 hz2 rfl (by decide) _ (k + 1) _ rfl HROW4.out ⟨wr.heap.size, 0, none⟩ 1 1 [.string xe] rfl rfl (cell_one_new _ _ _) (by simp [Value.oneCell']) m1.out m2.out m3.out ?_; intro v' w11 hown' hgrow5 hnil5; have hx := KEY.out v' w11 hown' hgrow5; obtain ⟨g, cp, hv', hcp, hcells, hb11⟩ := hx; subst hv'; have HCELLS := Lib.hid hcells; have hcp1 : ¬ cp = 1 := (by omega); clear hown' hgrow5 hnil5 hcells)
      have HTS := Lib.hid (fun j (hj : j < (waysOf l hi).length) => HF.out.sw j hj)
      have HMS := Lib.hid (fun j (hj : j ≤ (waysOf l hi).length) => mostTo_small HF.out.sb HF.out.sw j hj)
      have HFO := Lib.hid (show fallOf l lo hi = mostTo (l.getD 0 0 - (lo : Rat)) (waysOf l hi) (k + 1) by unfold fallOf; rw [HWL.out])
      generalize hTT : waysOf l hi = T at *
      generalize hBB : l.getD 0 0 - (lo : Rat) = B at *
      clear hTT hBB HWY HF HXE
      go_loopw [22, 138] (fun s i wq => ∃ j : Nat, j ≤ k + 1 ∧ i = .int .i64 j ∧ s = .string (numS (mostTo B T j)) ∧ Below w11.heap.size w11 wq) (fun _ i _ => k + 1 - (intOf i).toNat)
      case atStart => exact ⟨0, by omega, rfl, congrArg Value.string HXB.out.symm, Below.refl _ _⟩
      case round =>
        obtain ⟨j, hj, rfl, rfl, hBq⟩ := hrel
        have hbq := below_trans' hb11 hBq
        by_cases hjl : j < k + 1
        · have hjT : j < T.length := by rw [HWL.out]; exact hjl
          have cj := keep hBq (HCELLS.out j hjT)
          have cj' := cj
          rw [Nat.add_comm] at cj'
          have hjI : (j : Int) < (k : Int) + 1 := by omega
          have HMT := Lib.hid (mostTo_succ B T hjT)
          have HS1 := Lib.hid (HTS.out j hjT)
          have HS2 := Lib.hid (HMS.out j (by omega))
          generalize htj : T[j] = tj at *
          generalize hmj : mostTo B T j = mj at *
          clear htj hmj
          by_cases hcq : mj < tj
          · have hpos : 0 < cmpQ tj mj := cmpQ_pos.2 hcq
            have HMX := Lib.hid (show maxQ mj tj = tj from if_pos hcq)
            obtain ⟨cq, hcq'⟩ : ∃ c, cmpQ tj mj = c := ⟨_, rfl⟩
            rw [hcq'] at hpos
            have HCQ := Lib.hid hcq'
            clear hcq hcq'
            go_wp2_with fail
            refine (Compare_small _ _ _ (numS_list _) HS1.out (numS_list _) HS2.out).mono ?_
            rintro e w12 ⟨rfl, hB12⟩
            rw [show Lib.compareInt (tj.num * mj.den) (mj.num * tj.den) = cq from HCQ.out]
            have hBr := below_trans' hBq hB12
            clear hB12 hBq cj cj'
            go_wp2_with fail
            go_roundw
            case rel => exact ⟨j + 1, by omega, by go_num, by rw [HMT.out, HMX.out], hBr⟩
            case measure => simp [intOf]; omega
          · have hpos : ¬ 0 < cmpQ tj mj := fun h => hcq (cmpQ_pos.1 h)
            have HMX := Lib.hid (show maxQ mj tj = mj from if_neg hcq)
            obtain ⟨cq, hcq'⟩ : ∃ c, cmpQ tj mj = c := ⟨_, rfl⟩
            rw [hcq'] at hpos
            have HCQ := Lib.hid hcq'
            clear hcq hcq'
            go_wp2_with fail
            refine (Compare_small _ _ _ (numS_list _) HS1.out (numS_list _) HS2.out).mono ?_
            rintro e w12 ⟨rfl, hB12⟩
            rw [show Lib.compareInt (tj.num * mj.den) (mj.num * tj.den) = cq from HCQ.out]
            have hBr := below_trans' hBq hB12
            clear hB12 hBq cj cj'
            go_wp2_with fail
            go_roundw
            case rel => exact ⟨j + 1, by omega, by go_num, by rw [HMT.out, HMX.out], hBr⟩
            case measure => simp [intOf]; omega
        · have e : j = k + 1 := by omega
          subst e
          have HS2 := Lib.hid (HMS.out (k + 1) (by rw [HWL.out]; exact Nat.le_refl _))
          go_wp2_with fail
          refine (HGN.out _ hbq per (by omega) (by omega)).mono ?_
          rintro e w13 ⟨rfl, hB13⟩
          have hb13 : Below w.heap.size w w13 := below_trans' hbq hB13
          clear hB13 hbq hBq
          go_wp2_with fail
          refine (HDP.out _ hb13 (mostTo B T (k + 1)) HS2.out).mono ?_
          rintro e w14 ⟨rfl, hB14⟩
          have hb14 : Below w.heap.size w w14 := below_trans' hb13 hB14
          go_wp2_with fail
          go_ret2
          exact ⟨by rw [HFO.out]; rfl, hb14⟩
end Go.Proofs.YtjpigaobeegbgaaGreatDoor
