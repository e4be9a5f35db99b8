/- Walks: integer.Gcd, Divide at short integers; rational.number, Of. -/
import Derived.Test.YtjpigaobeegbgaaGreatDoorWSmallInt
namespace Go.Proofs.YtjpigaobeegbgaaGreatDoor
open Go.RowKit
theorem dec_le_of_size {s : ByteArray} {x : Int} {k : Nat} (hs : s.data.toList = Lib.itoa x) (h : s.size ≤ k) : (Lib.decDigits x.natAbs).length ≤ k := by
  have e : s.size = s.data.toList.length := rfl
  rw [e, hs] at h
  exact Nat.le_trans (trim_len x) h
set_option maxRecDepth 100000 in
set_option maxHeartbeats 800000 in
theorem Gcd_small (x y : Int) (s t : ByteArray) (w : World) (hG : Glo w) (hs : s.data.toList = Lib.itoa x) (hx : s.size ≤ 18) (ht : t.data.toList = Lib.itoa y) (hy : t.size ≤ 18) :
    Calls Tryz.prog 91 #[.string s, .string t] w (RetI (Int.gcd x y : Nat) w) := by
  have hxl := dec_le_of_size hs hx
  have hyl := dec_le_of_size ht hy
  have bx : x.natAbs < 10 ^ 18 := itoa_lt (by rw [← hs]; exact hx)
  have by' : y.natAbs < 10 ^ 18 := itoa_lt (by rw [← ht]; exact hy)
  have HS := Lib.hid hs
  have HT := Lib.hid ht
  have HG := Lib.hid hG
  clear hs ht hG
  go_enter Tryz.func91, Tryz.ntmps91
  go_wp2_with fail
  refine (Iboth_ok x y s t _ HS.out (by omega) HT.out (by omega)).mono ?_
  rintro e w1 ⟨rfl, hB1⟩
  go_wp2_with fail
  refine (Ismall_ok x y s t _ HS.out hx HT.out hy).mono ?_
  rintro e w2 ⟨rfl, hB2⟩
  have hB : Below w.heap.size w w2 := (by repeat (first | (with_reducible first | exact Below.refl _ _ | refine Below.setCell ?_ ?_ _ | refine below_drewN ?_ _ | refine Below.drew ?_ | refine below_alloc ?_ _ | refine below_trans'' (by assumption) ?_) | exact Nat.le_refl _ | (focus (simp; done)) | (focus (simp; omega)) | omega))
  clear hB1 hB2
  go_wp2_with fail
  go_loopw [7, 8] (fun a b wr => ∃ m n : Int, a = .int .i64 m ∧ b = .int .i64 n ∧ m.natAbs < 10 ^ 18 ∧ n.natAbs < 10 ^ 18 ∧ Int.gcd m n = Int.gcd x y ∧ Below w.heap.size w wr) (fun _ b _ => (intOf b).natAbs)
  case atStart => exact ⟨x, y, rfl, rfl, bx, by', rfl, hB⟩
  case round =>
    obtain ⟨m, n, rfl, rfl, hm, hn, hg, hBr⟩ := hrel
    have HGG := Lib.hid hg
    clear hg hB
    by_cases h0 : n = 0
    · subst h0
      have hgm : Hid (Int.gcd x y = m.natAbs) := Lib.hid (by rw [← HGG.out, Int.gcd_zero_right])
      go_wp2_with fail
      refine (itoa_any (max m (-m)) (by omega) (by omega) _ (HG.out.below hBr)).mono ?_
      rintro e w3 ⟨r, hr, rfl, hB3⟩
      have HR := Lib.hid hr
      clear hr
      go_wp2_with fail
      go_ret2
      exact ⟨r, by rw [HR.out, hgm.out]; congr 1; omega, rfl, hBr.trans (hB3.mono hBr.size)⟩
    · have hne : ((n : Int) != 0) = true := by simp [h0]
      have hnz : ¬ n = 0 := h0
      obtain ⟨q, hq⟩ : ∃ q, m.tmod n = q := ⟨_, rfl⟩
      have hqa : q.natAbs = m.natAbs % n.natAbs := by rw [← hq, Int.natAbs_tmod]
      have hqn : q.natAbs < n.natAbs := by rw [hqa]; exact Nat.mod_lt _ (by omega)
      have hqg : Int.gcd n q = Int.gcd x y := by
        rw [← HGG.out, Int.gcd, Int.gcd, hqa, Nat.gcd_comm m.natAbs, Nat.gcd_comm n.natAbs]
        exact (Nat.gcd_rec n.natAbs m.natAbs).symm
      have hw : IntKind.i64.wrap q = q := IntWalk.i64_in _ (by omega)
      have HQ := Lib.hid hqg
      clear hqa hqg
      go_wp2_with fail
      go_quiet (fail)
      go_wp2_with fail
      go_roundw
      case rel => exact ⟨n, q, rfl, rfl, hn, by omega, HQ.out, below_drewN hBr _⟩
      case measure => simp [intOf]; omega
theorem eq_of_list {s : ByteArray} {m : List UInt8} (h : s.data.toList = m) : (s.toList == m) = true := by
  rw [Lib.toList_data, h]; simp
theorem itoa_one : Lib.itoa 1 = [49] := by rw [Lib.itoa, if_neg (by omega)]; exact one_digits
theorem itoa_ne1 {n : Int} (h : n ≠ 1) : Lib.itoa n ≠ [49] := by
  rcases itoa_cases n with ⟨h1, e⟩ | ⟨h1, e⟩
  · rw [e]; intro h2; injection h2 with h3 h4; exact absurd h3 (by decide)
  · rw [e]; exact dec_ne_one (by omega)
theorem tmod_floor (n d : Int) (hd : 0 < d) : (n.tmod d < 0 → n % d = n.tmod d + d) ∧ (¬ n.tmod d < 0 → n % d = n.tmod d) := by
  have h1 := Int.mul_tdiv_add_tmod n d
  have h2 := Int.mul_ediv_add_emod n d
  have h3 := tdiv_floor n d hd
  constructor
  · intro h
    have := h3.1 h
    rw [this, Int.mul_sub] at h2; omega
  · intro h
    have := h3.2 h
    rw [this] at h2; omega
set_option maxRecDepth 100000 in
set_option maxHeartbeats 800000 in
theorem Divide_small (x y : Int) (s t : ByteArray) (w : World) (hG : Glo w) (hs : s.data.toList = Lib.itoa x) (hx : s.size ≤ 18) (ht : t.data.toList = Lib.itoa y) (hy : t.size ≤ 18) (hy0 : 0 < y) :
    Calls Tryz.prog 92 #[.string s, .string t] w fun e w' => ∃ q r : ByteArray, q.data.toList = Lib.itoa (x / y) ∧ r.data.toList = Lib.itoa (x % y) ∧ e = .returned (.tuple #[.string q, .string r, .int .i64 0]) ∧ Below w.heap.size w w' := by
  have hxl := dec_le_of_size hs hx
  have hyl := dec_le_of_size ht hy
  have bx : x.natAbs < 10 ^ 18 := itoa_lt (by rw [← hs]; exact hx)
  have by' : y.natAbs < 10 ^ 18 := itoa_lt (by rw [← ht]; exact hy)
  have hne : (t.toList == [48]) = false := ne_of_list ht (itoa_ne0 (by omega))
  have HS := Lib.hid hs
  have HT := Lib.hid ht
  have HG := Lib.hid hG
  have t1 := tdiv_floor x y hy0
  have t2 := tmod_floor x y hy0
  obtain ⟨q, hq⟩ : ∃ q, x.tdiv y = q := ⟨_, rfl⟩
  obtain ⟨r, hr⟩ : ∃ r, x.tmod y = r := ⟨_, rfl⟩
  rw [hq, hr] at t1
  rw [hr] at t2
  have hqa : q.natAbs ≤ x.natAbs := by rw [← hq, Int.natAbs_tdiv]; exact Nat.div_le_self _ _
  have hra : r < y ∧ -y < r := by
    have := Int.tmod_lt_of_pos x hy0; have := Int.lt_tmod_of_pos x hy0; omega
  obtain ⟨r1, r2⟩ := hra
  have hw1 : IntKind.i64.wrap q = q := IntWalk.i64_in _ (by omega)
  have hw2 : IntKind.i64.wrap r = r := IntWalk.i64_in _ (by omega)
  have hyz : ¬ y = 0 := by omega
  have hyn : ¬ y < 0 := by omega
  have hyd : decide (y < 0) = false := by simpa using hyn
  by_cases h : r < 0
  · have hrn : (r != 0) = true := by simp; omega
    have hrd : decide (r < 0) = true := by simpa using h
    have hw3 : IntKind.i64.wrap (q - 1) = q - 1 := IntWalk.i64_in _ (by omega)
    have hw4 : IntKind.i64.wrap (r + y) = r + y := IntWalk.i64_in _ (by omega)
    have E1 : Hid (x / y = q - 1) := Lib.hid (t1.1 h)
    have E2 : Hid (x % y = r + y) := Lib.hid (t2.1 h)
    clear hs ht hG t1 t2
    go_enter Tryz.func92, Tryz.ntmps92
    go_wp2_with fail
    refine (Iboth_ok x y s t _ HS.out (by omega) HT.out (by omega)).mono ?_
    rintro e w1 ⟨rfl, hB1⟩
    go_wp2_with fail
    refine (Ismall_ok x y s t _ HS.out hx HT.out hy).mono ?_
    rintro e w2 ⟨rfl, hB2⟩
    go_wp2_with fail
    go_quiet (fail)
    go_wp2_with fail
    refine (itoa_any (q - 1) (by omega) (by omega) _ (HG.out.below (by repeat (first | (with_reducible first | exact Below.refl _ _ | refine Below.setCell ?_ ?_ _ | refine below_drewN ?_ _ | refine Below.drew ?_ | refine below_alloc ?_ _ | refine below_trans'' (by assumption) ?_) | exact Nat.le_refl _ | (focus (simp; done)) | (focus (simp; omega)) | omega)))).mono ?_
    rintro e w3 ⟨u, hu, rfl, hB3⟩
    have HU := Lib.hid hu
    clear hu
    go_wp2_with fail
    refine (itoa_any (r + y) (by omega) (by omega) _ (HG.out.below (by repeat (first | (with_reducible first | exact Below.refl _ _ | refine Below.setCell ?_ ?_ _ | refine below_drewN ?_ _ | refine Below.drew ?_ | refine below_alloc ?_ _ | refine below_trans'' (by assumption) ?_) | exact Nat.le_refl _ | (focus (simp; done)) | (focus (simp; omega)) | omega)))).mono ?_
    rintro e w4 ⟨v, hv, rfl, hB4⟩
    have HV := Lib.hid hv
    clear hv
    go_wp2_with fail
    go_ret3
    exact ⟨u, v, by rw [HU.out, E1.out], by rw [HV.out, E2.out], rfl, (by repeat (first | (with_reducible first | exact Below.refl _ _ | refine Below.setCell ?_ ?_ _ | refine below_drewN ?_ _ | refine Below.drew ?_ | refine below_alloc ?_ _ | refine below_trans'' (by assumption) ?_) | exact Nat.le_refl _ | (focus (simp; done)) | (focus (simp; omega)) | omega))⟩
  · have hrd : decide (r < 0) = false := by simpa using h
    have E1 : Hid (x / y = q) := Lib.hid (t1.2 h)
    have E2 : Hid (x % y = r) := Lib.hid (t2.2 h)
    have hr0 : (0 : Int) ≤ r := by omega
    clear hs ht hG t1 t2 h
    by_cases hz : r = 0
    · have hrn : (r != 0) = false := by simp [hz]
      clear hz
      go_enter Tryz.func92, Tryz.ntmps92
      go_wp2_with fail
      refine (Iboth_ok x y s t _ HS.out (by omega) HT.out (by omega)).mono ?_
      rintro e w1 ⟨rfl, hB1⟩
      go_wp2_with fail
      refine (Ismall_ok x y s t _ HS.out hx HT.out hy).mono ?_
      rintro e w2 ⟨rfl, hB2⟩
      go_wp2_with fail
      go_quiet (fail)
      go_wp2_with fail
      refine (itoa_any (q) (by omega) (by omega) _ (HG.out.below (by repeat (first | (with_reducible first | exact Below.refl _ _ | refine Below.setCell ?_ ?_ _ | refine below_drewN ?_ _ | refine Below.drew ?_ | refine below_alloc ?_ _ | refine below_trans'' (by assumption) ?_) | exact Nat.le_refl _ | (focus (simp; done)) | (focus (simp; omega)) | omega)))).mono ?_
      rintro e w3 ⟨u, hu, rfl, hB3⟩
      have HU := Lib.hid hu
      clear hu
      go_wp2_with fail
      refine (itoa_any (r) (by omega) (by omega) _ (HG.out.below (by repeat (first | (with_reducible first | exact Below.refl _ _ | refine Below.setCell ?_ ?_ _ | refine below_drewN ?_ _ | refine Below.drew ?_ | refine below_alloc ?_ _ | refine below_trans'' (by assumption) ?_) | exact Nat.le_refl _ | (focus (simp; done)) | (focus (simp; omega)) | omega)))).mono ?_
      rintro e w4 ⟨v, hv, rfl, hB4⟩
      have HV := Lib.hid hv
      clear hv
      go_wp2_with fail
      go_ret3
      exact ⟨u, v, by rw [HU.out, E1.out], by rw [HV.out, E2.out], rfl, (by repeat (first | (with_reducible first | exact Below.refl _ _ | refine Below.setCell ?_ ?_ _ | refine below_drewN ?_ _ | refine Below.drew ?_ | refine below_alloc ?_ _ | refine below_trans'' (by assumption) ?_) | exact Nat.le_refl _ | (focus (simp; done)) | (focus (simp; omega)) | omega))⟩
    · have hrn : (r != 0) = true := by simp [hz]
      clear hz
      go_enter Tryz.func92, Tryz.ntmps92
      go_wp2_with fail
      refine (Iboth_ok x y s t _ HS.out (by omega) HT.out (by omega)).mono ?_
      rintro e w1 ⟨rfl, hB1⟩
      go_wp2_with fail
      refine (Ismall_ok x y s t _ HS.out hx HT.out hy).mono ?_
      rintro e w2 ⟨rfl, hB2⟩
      go_wp2_with fail
      go_quiet (fail)
      go_wp2_with fail
      refine (itoa_any (q) (by omega) (by omega) _ (HG.out.below (by repeat (first | (with_reducible first | exact Below.refl _ _ | refine Below.setCell ?_ ?_ _ | refine below_drewN ?_ _ | refine Below.drew ?_ | refine below_alloc ?_ _ | refine below_trans'' (by assumption) ?_) | exact Nat.le_refl _ | (focus (simp; done)) | (focus (simp; omega)) | omega)))).mono ?_
      rintro e w3 ⟨u, hu, rfl, hB3⟩
      have HU := Lib.hid hu
      clear hu
      go_wp2_with fail
      refine (itoa_any (r) (by omega) (by omega) _ (HG.out.below (by repeat (first | (with_reducible first | exact Below.refl _ _ | refine Below.setCell ?_ ?_ _ | refine below_drewN ?_ _ | refine Below.drew ?_ | refine below_alloc ?_ _ | refine below_trans'' (by assumption) ?_) | exact Nat.le_refl _ | (focus (simp; done)) | (focus (simp; omega)) | omega)))).mono ?_
      rintro e w4 ⟨v, hv, rfl, hB4⟩
      have HV := Lib.hid hv
      clear hv
      go_wp2_with fail
      go_ret3
      exact ⟨u, v, by rw [HU.out, E1.out], by rw [HV.out, E2.out], rfl, (by repeat (first | (with_reducible first | exact Below.refl _ _ | refine Below.setCell ?_ ?_ _ | refine below_drewN ?_ _ | refine Below.drew ?_ | refine below_alloc ?_ _ | refine below_trans'' (by assumption) ?_) | exact Nat.le_refl _ | (focus (simp; done)) | (focus (simp; omega)) | omega))⟩
set_option maxRecDepth 100000 in
set_option maxHeartbeats 800000 in
/-- rational.number at short integers, the denominator positive -/
theorem Qnumber_small (n d : Int) (s t : ByteArray) (w : World) (hG : Glo w) (hs : s.data.toList = Lib.itoa n) (hx : s.size ≤ 18) (ht : t.data.toList = Lib.itoa d) (hy : t.size ≤ 18) (hd : 0 < d) :
    Calls Tryz.prog 44 #[.string s, .string t] w (RetN (Rat.divInt n d) w) := by
  have HS := Lib.hid hs
  have HT := Lib.hid ht
  have HG := Lib.hid hG
  have hp : Lib.hasPrefix t.data.toList [45] = false := by
    rw [ht]
    rcases itoa_cases d with ⟨h, _⟩ | ⟨_, e⟩
    · omega
    · rw [e]
      have h1 := decDigits_no45 d.natAbs []
      rw [List.append_nil] at h1
      cases hd' : Lib.decDigits d.natAbs with
      | nil => rfl
      | cons a l =>
        rw [hd'] at h1
        simp only [Lib.hasPrefix, List.isPrefixOf, Bool.and_true]
        simpa using fun e => h1 (by simp [← e])
  have HP := Lib.hid hp
  have bd : d.natAbs < 10 ^ 18 := itoa_lt (by rw [← ht]; exact hy)
  have bn : n.natAbs < 10 ^ 18 := itoa_lt (by rw [← hs]; exact hx)
  obtain ⟨a, b, g, hg, g0, ha, hb, hb0, hnum, hden, q1, q2⟩ := divInt_parts n d hd
  have hg' : Int.gcd n d = g := by rw [hg]; simp only [Int.gcd]; congr 1; omega
  have e1 : n / (g : Int) = a := by rw [ha]; exact Int.mul_ediv_cancel _ (by omega)
  have e2 : d / (g : Int) = b := by rw [hb]; exact Int.mul_ediv_cancel _ (by omega)
  have gd : g ≤ d.natAbs := by
    have : (g : Int) ∣ d := ⟨b, by rw [Int.mul_comm]; exact hb⟩
    have := Int.le_of_dvd hd this
    omega
  have han : a.natAbs ≤ n.natAbs := by rw [← q1, Int.natAbs_tdiv]; exact Nat.div_le_self _ _
  have hbn : b.natAbs ≤ d.natAbs := by rw [← q2, Int.natAbs_tdiv]; exact Nat.div_le_self _ _
  have gl : (Lib.itoa (g : Int)).length ≤ 18 := by
    rw [Lib.itoa_nonneg, Lib.decDigits_length]
    exact nDigits_le_of_lt (by omega) (by omega)
  have al : (Lib.itoa a).length ≤ 19 := itoa_len_le (k := 18) (by omega) (by omega)
  have bl : (Lib.itoa b).length ≤ 19 := itoa_len_le (k := 18) (by omega) (by omega)
  have GL := Lib.hid gl
  have AL := Lib.hid al
  have BL := Lib.hid bl
  have E1 := Lib.hid e1
  have E2 := Lib.hid e2
  have HGG := Lib.hid hg'
  have HN := Lib.hid hnum
  have HD := Lib.hid hden
  have HB0 := Lib.hid hb0
  have G0 := Lib.hid g0
  clear hs ht hG hp bd bn hg g0 ha hb hb0 hnum hden q1 q2 hg' e1 e2 gd han hbn gl al bl
  go_enter Tryz.func44, Tryz.ntmps44
  go_wp2_with fail
  refine (Tryz.strings_HasPrefix _ _ _).mono ?_
  rintro e w1 ⟨rfl, hw1⟩
  rw [hw1, show Lib.hasPrefix t.data.toList (ByteArray.mk #[45]).data.toList = false from HP.out]
  clear hw1
  go_wp2_with fail
  refine (Gcd_small n d s t _ HG.out HS.out hx HT.out hy).mono ?_
  rintro e w2 ⟨c, hc, rfl, hB2⟩
  rw [HGG.out] at hc
  have HC := Lib.hid hc
  clear hc
  by_cases hg1 : g = 1
  · have hz1 := eq_of_list (s := c) (m := [49]) (by rw [HC.out, hg1]; exact itoa_one)
    have NH : Hid (s.data.toList = Lib.itoa a) := Lib.hid (by rw [HS.out, ← E1.out, hg1]; congr 1; omega)
    have DH : Hid (t.data.toList = Lib.itoa b) := Lib.hid (by rw [HT.out, ← E2.out, hg1]; congr 1; omega)
    clear hg1
    by_cases hb1 : b = 1
    · have hz := eq_of_list (s := t) (m := [49]) (by rw [DH.out, hb1]; exact itoa_one)
      have HT2 : Hid (ratText (Rat.divInt n d) = Lib.itoa a) := Lib.hid (by
        have h2 := HD.out
        rw [ratText, if_pos (by omega), HN.out])
      clear hb1
      go_wp2_with fail
      go_ret2
      exact ⟨s, by rw [NH.out, HT2.out], rfl, (by repeat (first | (with_reducible first | exact Below.refl _ _ | refine Below.setCell ?_ ?_ _ | refine below_drewN ?_ _ | refine Below.drew ?_ | refine below_alloc ?_ _ | refine below_trans'' (by assumption) ?_) | exact Nat.le_refl _ | (focus (simp; done)) | (focus (simp; omega)) | omega))⟩
    · have hz := ne_of_list (s := t) (m := [49]) DH.out (itoa_ne1 hb1)
      have HT2 : Hid (ratText (Rat.divInt n d) = Lib.itoa a ++ 47 :: Lib.itoa b) := Lib.hid (by
        have h2 := HD.out
        rw [ratText, if_neg (by omega), HN.out, ← h2, Lib.itoa_nonneg])
      have l1 : s.size ≤ 19 := by have := AL.out; rw [← NH.out] at this; exact this
      have l2 : t.size ≤ 19 := by have := BL.out; rw [← DH.out] at this; exact this
      clear hb1
      go_wp2_with fail
      go_ret2
      refine ⟨_, ?_, rfl, (by repeat (first | (with_reducible first | exact Below.refl _ _ | refine Below.setCell ?_ ?_ _ | refine below_drewN ?_ _ | refine Below.drew ?_ | refine below_alloc ?_ _ | refine below_trans'' (by assumption) ?_) | exact Nat.le_refl _ | (focus (simp; done)) | (focus (simp; omega)) | omega))⟩
      rw [HT2.out, ← NH.out, ← DH.out]
      simp
  · have hz1 := ne_of_list (s := c) (m := [49]) HC.out (itoa_ne1 (by omega))
    have hcl : c.size ≤ 18 := by have := GL.out; rw [← HC.out] at this; exact this
    clear hg1
    go_wp2_with fail
    refine (Divide_small n g s c _ (HG.out.below (by repeat (first | (with_reducible first | exact Below.refl _ _ | refine Below.setCell ?_ ?_ _ | refine below_drewN ?_ _ | refine Below.drew ?_ | refine below_alloc ?_ _ | refine below_trans'' (by assumption) ?_) | exact Nat.le_refl _ | (focus (simp; done)) | (focus (simp; omega)) | omega))) HS.out hx HC.out hcl (by have := G0.out; omega)).mono ?_
    rintro e w3 ⟨s', r', hs', hr', rfl, hB3⟩
    have NH : Hid (s'.data.toList = Lib.itoa a) := Lib.hid (by rw [hs', E1.out])
    clear hs' hr'
    go_wp2_with fail
    refine (Divide_small d g t c _ (HG.out.below (by repeat (first | (with_reducible first | exact Below.refl _ _ | refine Below.setCell ?_ ?_ _ | refine below_drewN ?_ _ | refine Below.drew ?_ | refine below_alloc ?_ _ | refine below_trans'' (by assumption) ?_) | exact Nat.le_refl _ | (focus (simp; done)) | (focus (simp; omega)) | omega))) HT.out hy HC.out hcl (by have := G0.out; omega)).mono ?_
    rintro e w4 ⟨t', r'', ht', hr'', rfl, hB4⟩
    have DH : Hid (t'.data.toList = Lib.itoa b) := Lib.hid (by rw [ht', E2.out])
    clear ht' hr''
    by_cases hb1 : b = 1
    · have hz := eq_of_list (s := t') (m := [49]) (by rw [DH.out, hb1]; exact itoa_one)
      have HT2 : Hid (ratText (Rat.divInt n d) = Lib.itoa a) := Lib.hid (by
        have h2 := HD.out
        rw [ratText, if_pos (by omega), HN.out])
      clear hb1
      go_wp2_with fail
      go_ret2
      exact ⟨s', by rw [NH.out, HT2.out], rfl, (by repeat (first | (with_reducible first | exact Below.refl _ _ | refine Below.setCell ?_ ?_ _ | refine below_drewN ?_ _ | refine Below.drew ?_ | refine below_alloc ?_ _ | refine below_trans'' (by assumption) ?_) | exact Nat.le_refl _ | (focus (simp; done)) | (focus (simp; omega)) | omega))⟩
    · have hz := ne_of_list (s := t') (m := [49]) DH.out (itoa_ne1 hb1)
      have HT2 : Hid (ratText (Rat.divInt n d) = Lib.itoa a ++ 47 :: Lib.itoa b) := Lib.hid (by
        have h2 := HD.out
        rw [ratText, if_neg (by omega), HN.out, ← h2, Lib.itoa_nonneg])
      have l1 : s'.size ≤ 19 := by have := AL.out; rw [← NH.out] at this; exact this
      have l2 : t'.size ≤ 19 := by have := BL.out; rw [← DH.out] at this; exact this
      clear hb1
      go_wp2_with fail
      go_ret2
      refine ⟨_, ?_, rfl, (by repeat (first | (with_reducible first | exact Below.refl _ _ | refine Below.setCell ?_ ?_ _ | refine below_drewN ?_ _ | refine Below.drew ?_ | refine below_alloc ?_ _ | refine below_trans'' (by assumption) ?_) | exact Nat.le_refl _ | (focus (simp; done)) | (focus (simp; omega)) | omega))⟩
      rw [HT2.out, ← NH.out, ← DH.out]
      simp
set_option maxHeartbeats 800000 in
theorem Of_one (n : Int) (w : World) (hG : Glo w) (h0 : -9223372036854775808 ≤ n) (h1 : n ≤ 9223372036854775807) :
    Calls Tryz.prog 14 #[.int .i64 n, .int .i64 1] w (RetN n w) := by
  have HG := Lib.hid hG
  clear hG
  go_enter Tryz.func14, Tryz.ntmps14
  go_wp2_with fail
  refine (itoa_any n h0 h1 _ HG.out).mono ?_
  rintro e w1 ⟨r, hr, rfl, hB1⟩
  have HR := Lib.hid hr
  clear hr
  go_wp2_with fail
  go_ret2
  exact ⟨r, by rw [HR.out, ratText_int], rfl, hB1⟩
set_option maxHeartbeats 800000 in
theorem Of_small (n d : Int) (w : World) (hG : Glo w) (h0 : n.natAbs < 10 ^ 17) (h1 : 1 < d) (h2 : d < 10 ^ 17) :
    Calls Tryz.prog 14 #[.int .i64 n, .int .i64 d] w (RetN (Rat.divInt n d) w) := by
  have HG := Lib.hid hG
  have l1 : (Lib.itoa n).length ≤ 18 := itoa_len_le (k := 17) h0 (by omega)
  have l2 : (Lib.itoa d).length ≤ 18 := itoa_len_le (k := 17) (by omega) (by omega)
  have L1 := Lib.hid l1
  have L2 := Lib.hid l2
  have z0 : (d == 0) = false := by simp; omega
  have z1 : (d == 1) = false := by simp; omega
  clear hG l1 l2
  go_enter Tryz.func14, Tryz.ntmps14
  go_wp2_with fail
  refine (itoa_any n (by omega) (by omega) _ HG.out).mono ?_
  rintro e w1 ⟨r, hr, rfl, hB1⟩
  have HR := Lib.hid hr
  clear hr
  go_wp2_with fail
  refine (itoa_any d (by omega) (by omega) _ (HG.out.below (by repeat (first | (with_reducible first | exact Below.refl _ _ | refine Below.setCell ?_ ?_ _ | refine below_drewN ?_ _ | refine Below.drew ?_ | refine below_alloc ?_ _ | refine below_trans'' (by assumption) ?_) | exact Nat.le_refl _ | (focus (simp; done)) | (focus (simp; omega)) | omega)))).mono ?_
  rintro e w2 ⟨s, hs, rfl, hB2⟩
  have HS := Lib.hid hs
  clear hs
  go_wp2_with fail
  refine (Qnumber_small n d r s _ (HG.out.below (by repeat (first | (with_reducible first | exact Below.refl _ _ | refine Below.setCell ?_ ?_ _ | refine below_drewN ?_ _ | refine Below.drew ?_ | refine below_alloc ?_ _ | refine below_trans'' (by assumption) ?_) | exact Nat.le_refl _ | (focus (simp; done)) | (focus (simp; omega)) | omega))) HR.out (by have := L1.out; rw [← HR.out] at this; exact this) HS.out (by have := L2.out; rw [← HS.out] at this; exact this) (by omega)).mono ?_
  rintro e w3 ⟨u, hu, rfl, hB3⟩
  have HU := Lib.hid hu
  clear hu
  go_wp2_with fail
  go_ret2
  exact ⟨u, HU.out, rfl, (by repeat (first | (with_reducible first | exact Below.refl _ _ | refine Below.setCell ?_ ?_ _ | refine below_drewN ?_ _ | refine Below.drew ?_ | refine below_alloc ?_ _ | refine below_trans'' (by assumption) ?_) | exact Nat.le_refl _ | (focus (simp; done)) | (focus (simp; omega)) | omega))⟩
end Go.Proofs.YtjpigaobeegbgaaGreatDoor
