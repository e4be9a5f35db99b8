/- Walks: package spacing at lists of short numbers that ascend: Check, Within, Gaps. -/
import Derived.Test.YtjpigaobeegbgaaGreatDoorWSearch
import Derived.Test.YtjpigaobeegbgaaGreatDoorJ14
import Derived.Test.YtjpigaobeegbgaaGreatDoorJ07
import Derived.Maps.AppendAt
set_option linter.unusedVariables false
set_option linter.unusedSimpArgs false
namespace Go.Proofs.YtjpigaobeegbgaaGreatDoor
open Go.RowKit Go.Shelf
/-- positions -/
structure Poss (l : List Rat) : Prop where
  len : l.length ≤ 200
  small : ∀ k (h : k < l.length), Small l[k]
  asc : ∀ i j (hi : i < l.length) (hj : j < l.length), i < j → l[i] < l[j]
theorem cmpQ_le {p q : Rat} (h : p ≤ q) : cmpQ p q ≤ 0 := by
  by_cases h1 : p < q
  · exact Int.le_of_lt (cmpQ_neg.2 h1)
  · have : p = q := Rat.le_antisymm h (Rat.not_lt.1 h1)
    rw [cmpQ_zero.2 this]; omega
theorem cmpQ_lt {p q : Rat} (h : p < q) : cmpQ p q = -1 := by unfold cmpQ; exact cmp_lt h
/-- the cells of a list of numbers -/
theorem strs_cells {w : World} {a : Option Addr} {cap n : Nat} {l : List Rat} (h : IsStrs w (.slice a n cap) (l.map numS)) : n = l.length ∧ (l ≠ [] → ∃ b off, a = some ⟨b, off, none⟩ ∧ ∀ k (h : k < l.length), w.cell? ⟨b, off + k, none⟩ = some (.string (numS l[k]))) := by
  obtain ⟨a', cap', e, hc⟩ := h
  injection e with e1 e2 e3
  subst e1
  refine ⟨by rw [e2]; simp, fun h0 => ?_⟩
  obtain ⟨b, off, e, h⟩ := hc (by simpa using h0)
  exact ⟨b, off, e, fun k hk => by have := h k (by simpa using hk); simpa using this⟩
theorem rowKeep {W W' : World} {B e size n : Nat} {v : Value} {xs : List Value} (h : W.ownsRow B e size v n xs) (hb : ∀ k, B ≤ k → k < W.heap.size → W'.heap[k]? = W.heap[k]?) : W'.ownsRow B e size v n xs := by
  refine ⟨h.1, ?_⟩
  rcases h.2 with hn | ⟨g, cap, cur, e, hB, hg, rest⟩
  · exact .inl hn
  · exact .inr ⟨g, cap, cur, e, hB, (hb g hB (Array.getElem?_eq_some_iff.1 hg).1).trans hg, rest⟩
/-- an append of one number to a row of the call's own -/
theorem num_grown {w W W' : World} {n : Nat} {v : Value} {xs : List Value} {s : ByteArray} (hrow : W.ownsRow w.heap.size 38 1 v n xs) (hB : Below w.heap.size w W) (hg : (W.alloc (.cells #[.string s] 38)).grownBy W' v.ownBlock) : Below w.heap.size w W' := by
  refine Below.grown (below_alloc hB _) hg (below_alloc hB _).size (fun k hk => ?_)
  rcases hrow.2 with ⟨rfl, _⟩ | ⟨g, cap, cur, rfl, hb, _⟩
  · cases hk
  · cases hk; exact hb
set_option maxRecDepth 100000 in
set_option maxHeartbeats 1600000 in
theorem spCheck_ok (l : List Rat) (v : Value) (w : World) (hG : Glo w) (hv : IsStrs w v (l.map numS)) (hp : Poss l) : Calls Tryz.prog 58 #[v] w (RetB (.int .i64 0) w) := by
  obtain ⟨a, n, cap, rfl⟩ : ∃ a n cap, v = .slice a n cap := by obtain ⟨a, cap, h, _⟩ := hv; exact ⟨_, _, _, h⟩
  obtain ⟨rfl, hc⟩ := strs_cells hv
  have HC := Lib.hid hc
  have HP := Lib.hid hp
  have HG := Lib.hid hG
  have hl := hp.len
  clear hc hp hG hv
  go_enter Tryz.func58, Tryz.ntmps58
  go_wp2_with fail
  go_loopw [13] (fun i wr => ∃ k : Nat, k ≤ l.length ∧ i = .int .i64 k ∧ Below w.heap.size w wr) (fun i _ => l.length - (intOf i).toNat)
  case atStart => exact ⟨0, by omega, rfl, Below.refl _ _⟩
  case round =>
    obtain ⟨k, hk, rfl, hB⟩ := hrel
    by_cases hlt : k < l.length
    · obtain ⟨b, off, rfl, hcell⟩ := HC.out (fun h0 => by rw [h0] at hlt; simp at hlt)
      have ck := keep hB (hcell k hlt)
      have hltI : (k : Int) < (l.length : Int) := by omega
      by_cases hk0 : k = 0
      · have hkz : ((k : Int) == 0) = true := by simp [hk0]
        have HK0 := Lib.hid hk0
        clear hcell hk0
        go_wp2_with fail
        refine (RCheck_small _ _ (HG.out.below hB) (numS_list _) (HP.out.small k hlt)).mono ?_
        rintro e w1 ⟨rfl, hB1⟩
        have hB2 : Below w.heap.size w w1 := below_trans' hB hB1
        clear hB1 ck
        go_wp2_with fail
        go_roundw
        case rel => exact ⟨k + 1, by omega, by go_num, hB2⟩
        case measure => simp [intOf]; omega
      · have hkz : ((k : Int) == 0) = false := by simp [hk0]
        obtain ⟨j, hj⟩ : ∃ j, k = j + 1 := ⟨k - 1, by omega⟩
        have hjl : j < l.length := by omega
        have cj := keep hB (hcell j hjl)
        have hkj : (k : Int) - 1 = (j : Int) := by omega
        have hjI : (j : Int) < (l.length : Int) := by omega
        have HASC := Lib.hid (cmpQ_lt (HP.out.asc j k hjl hlt (by omega)))
        clear hcell hk0 hj
        go_wp2_with fail
        refine (RCheck_small _ _ (HG.out.below hB) (numS_list _) (HP.out.small k hlt)).mono ?_
        rintro e w1 ⟨rfl, hB1⟩
        have hB2 : Below w.heap.size w w1 := below_trans' hB hB1
        have cj := keep hB1 cj
        clear hB1 ck
        go_wp2_with fail
        refine (Compare_small _ _ _ (numS_list _) (HP.out.small j hjl) (numS_list _) (HP.out.small k hlt)).mono ?_
        rintro e w3 ⟨rfl, hB3⟩
        rw [show Lib.compareInt (l[j].num * l[k].den) (l[k].num * l[j].den) = -1 from HASC.out]
        have hB4 : Below w.heap.size w w3 := below_trans' hB2 hB3
        clear hB3 hB2 cj hkj
        go_wp2_with fail
        go_roundw
        case rel => exact ⟨k + 1, by omega, by go_num, hB4⟩
        case measure => simp [intOf]; omega
    · have hltI : ¬ (k : Int) < (l.length : Int) := by omega
      go_wp2_with fail
      go_ret
      exact ⟨rfl, hB⟩
set_option maxRecDepth 100000 in
set_option maxHeartbeats 800000 in
theorem spranged_ok {lo hi : Rat} (w : World) (h : lo ≤ hi) (h1 : Small lo) (h2 : Small hi) : Calls Tryz.prog 115 #[.agg #[.string (numS lo), .string (numS hi)]] w (RetB (.bool true) w) := by
  obtain ⟨c, hc⟩ : ∃ c, cmpQ lo hi = c := ⟨_, rfl⟩
  have hle : c ≤ 0 := hc ▸ cmpQ_le h
  have HC := Lib.hid hc
  have H1 := Lib.hid h1
  have H2 := Lib.hid h2
  clear h h1 h2 hc
  go_enter Tryz.func115, Tryz.ntmps115
  go_wp2_with fail
  refine (Compare_small _ _ _ (numS_list _) H1.out (numS_list _) H2.out).mono ?_
  rintro e w3 ⟨rfl, hB3⟩
  rw [show Lib.compareInt (lo.num * hi.den) (hi.num * lo.den) = c from HC.out]
  have hB4 : Below w.heap.size w w3 := (by repeat (first | (with_reducible first | exact Below.refl _ _ | refine Below.setCell ?_ ?_ _ | refine below_drewN ?_ _ | refine Below.drew ?_ | refine below_alloc ?_ _ | refine below_trans'' (by assumption) ?_) | exact Nat.le_refl _ | (focus (simp; done)) | (focus (simp; omega)) | omega))
  clear hB3
  go_wp2_with fail
  go_ret
  exact ⟨rfl, hB4⟩
/-- so many positions are returned -/
def RetLen (n : Nat) (w : World) (e : Ending) (w' : World) : Prop := ∃ a cap, e = .returned (.tuple #[.slice a n cap, .int .i64 0]) ∧ Below w.heap.size w w'
set_option maxRecDepth 100000 in
set_option maxHeartbeats 1600000 in
theorem within_ok {lo hi : Rat} (l : List Rat) (v : Value) (w : World) (hG : Glo w) (hv : IsStrs w v (l.map numS)) (hp : Poss l) (hlh : lo ≤ hi) (hlo : Small lo) (hhi : Small hi) (hin : ∀ k (h : k < l.length), lo ≤ l[k] ∧ l[k] ≤ hi) :
    Calls Tryz.prog 59 #[v, .agg #[.string (numS lo), .string (numS hi)]] w (RetLen l.length w) := by
  have HCK := Lib.hid (fun W (hB : Below w.heap.size w W) => spCheck_ok l v W (hG.below hB) (hv.below hB) hp)
  obtain ⟨a, n, cap, rfl⟩ : ∃ a n cap, v = .slice a n cap := by obtain ⟨a, cap, h, _⟩ := hv; exact ⟨_, _, _, h⟩
  obtain ⟨rfl, hc⟩ := strs_cells hv
  obtain ⟨i0, hi0, hz0, hz1, hz2⟩ := info_parts Tryz.infoNum
  have HC := Lib.hid hc
  have HP := Lib.hid hp
  have HLH := Lib.hid hlh
  have HLO := Lib.hid hlo
  have HHI := Lib.hid hhi
  have HIN := Lib.hid hin
  have hl := hp.len
  clear hc hp hG hv hlh hlo hhi hin
  go_enter Tryz.func59, Tryz.ntmps59
  go_wp2_with fail
  refine (HCK.out _ (by repeat (first | (with_reducible first | exact Below.refl _ _ | refine Below.setCell ?_ ?_ _ | refine below_drewN ?_ _ | refine Below.drew ?_ | refine below_alloc ?_ _ | refine below_trans'' (by assumption) ?_) | exact Nat.le_refl _ | (focus (simp; done)) | (focus (simp; omega)) | omega))).mono ?_
  rintro e w1 ⟨rfl, hB1⟩
  have k0 : w1.cell? ⟨w.heap.size, 0, none⟩ = some (.string (numS lo)) := keep hB1 (by simp [go_sem])
  have k1 : w1.cell? ⟨w.heap.size, 1, none⟩ = some (.string (numS hi)) := keep hB1 (by simp [go_sem])
  have hb1 : Below w.heap.size w w1 := (by repeat (first | (with_reducible first | exact Below.refl _ _ | refine Below.setCell ?_ ?_ _ | refine below_drewN ?_ _ | refine Below.drew ?_ | refine below_alloc ?_ _ | refine below_trans'' (by assumption) ?_) | exact Nat.le_refl _ | (focus (simp; done)) | (focus (simp; omega)) | omega))
  clear hB1 HCK
  go_wp2_with fail
  refine (spranged_ok _ HLH.out HLO.out HHI.out).mono ?_
  rintro e w2 ⟨rfl, hB2⟩
  have k0 := keep hB2 k0
  have k1 := keep hB2 k1
  have hb2 : Below w.heap.size w w2 := below_trans' hb1 hB2
  have hz2' : w.heap.size < w2.heap.size := lt_of_cell k0
  clear hB2 hb1
  go_wp2_with fail
  go_loopw [6, 22] (fun s i wr => ∃ (k : Nat) (sa : Option Addr) (sc : Nat), k ≤ l.length ∧ i = .int .i64 k ∧ s = .slice sa k sc ∧ wr.ownsRow w2.heap.size 38 1 (.slice sa k sc) k (numVs (l.take k)) ∧ Below w2.heap.size w2 wr) (fun _ i _ => l.length - (intOf i).toNat)
  case atStart => exact ⟨0, none, 0, by omega, rfl, rfl, World.ownsRow_nil _ _ _ _, Below.refl _ _⟩
  case round =>
    obtain ⟨k, sa, sc, hk, rfl, rfl, hrow, hB⟩ := hrel
    have k0 := keep hB k0
    have k1 := keep hB k1
    by_cases hlt : k < l.length
    · obtain ⟨b, off, rfl, hcell⟩ := HC.out (fun h0 => by rw [h0] at hlt; simp at hlt)
      have ck := keep (below_trans' hb2 hB) (hcell k hlt)
      have hltI : (k : Int) < (l.length : Int) := by omega
      obtain ⟨c1, hc1⟩ : ∃ c, cmpQ lo l[k] = c := ⟨_, rfl⟩
      obtain ⟨c2, hc2⟩ : ∃ c, cmpQ l[k] hi = c := ⟨_, rfl⟩
      have hle1 : c1 ≤ 0 := hc1 ▸ cmpQ_le (HIN.out k hlt).1
      have hle2 : c2 ≤ 0 := hc2 ▸ cmpQ_le (HIN.out k hlt).2
      have HC1 := Lib.hid hc1
      have HC2 := Lib.hid hc2
      have HROW := Lib.hid hrow
      have HTK := Lib.hid (show numVs (l.take (k + 1)) = numVs (l.take k) ++ [.string (numS l[k])] by rw [List.take_succ_eq_append_getElem hlt]; unfold numVs; rw [List.map_append]; rfl)
      clear hcell hc1 hc2 hrow
      go_wp2_with fail
      refine (Compare_small _ _ _ (numS_list _) HLO.out (numS_list _) (HP.out.small k hlt)).mono ?_
      rintro e w3 ⟨rfl, hB3⟩
      rw [show Lib.compareInt (lo.num * l[k].den) (l[k].num * lo.den) = c1 from HC1.out]
      have k1 := keep hB3 k1
      have hBB := below_trans' hB hB3
      have HROW3 := Lib.hid (rowKeep HROW.out (fun j hj hjl => hB3.block j hjl))
      clear hB3 k0 ck HROW
      go_wp2_with fail
      refine (Compare_small _ _ _ (numS_list _) (HP.out.small k hlt) (numS_list _) HHI.out).mono ?_
      rintro e w4 ⟨rfl, hB4⟩
      rw [show Lib.compareInt (l[k].num * hi.den) (hi.num * l[k].den) = c2 from HC2.out]
      have hBC := below_trans' hBB hB4
      have hrow4 := rowKeep HROW3.out (fun j hj hjl => hB4.block j hjl)
      have HROW4 := Lib.hid (hrow4.alloc (.cells #[.string (numS l[k])] 38))
      have n1 := Lib.hid (show k + 1 ≤ maxLen by unfold maxLen; omega)
      have n2 := Lib.hid (show (k + 1) * 16 ≤ 140737488355328 by omega)
      have n3 := Lib.hid (show w2.heap.size ≤ (w4.alloc (.cells #[.string (numS l[k])] 38)).heap.size by simp; have := hBC.size; omega)
      have KEY := Lib.hid (fun (v' : Value) (W : World) (ho : W.ownsRow w2.heap.size 38 1 v' (k + 1) (numVs (l.take k) ++ [.string (numS l[k])])) (hg : (w4.alloc (.cells #[.string (numS l[k])] 38)).grownBy W (Value.slice sa k sc).ownBlock) => (⟨ho, num_grown hrow4 hBC hg⟩ : W.ownsRow w2.heap.size 38 1 v' (k + 1) (numVs (l.take k) ++ [.string (numS l[k])]) ∧ Below w2.heap.size w2 W))
      clear hB4 k1 HROW3 hrow4 hBB hBC hB
      generalize numS l[k] = st at *
      go_wp2_with (at_builtin; refine wpList_append_own _ rfl _ _ 27 rfl w2.heap.size 38 i0 (.string ⟨#[]⟩) 1 16 Tryz.underlying27 hi0 hz0 hz1 hz2 rfl (by decide) _ k _ rfl HROW4.out ⟨w4.heap.size, 0, none⟩ 1 1 [.string st] rfl rfl (cell_one_new _ _ _) (by simp [Value.oneCell']) n1.out n2.out n3.out ?_; intro v' w5 hown' hgrow5 hnil5; have HK := Lib.hid (KEY.out v' w5 hown' hgrow5); obtain ⟨sa2, sc2, rfl, _⟩ := row_shape hown'; clear hown' hgrow5 hnil5)
      go_roundw
      case rel => exact ⟨k + 1, sa2, sc2, by omega, by go_num, rfl, by rw [HTK.out]; exact HK.out.1, HK.out.2⟩
      case measure => simp [intOf]; omega
    · have e : k = l.length := by omega
      subst e
      clear hrow
      go_wp2_with fail
      go_ret2
      exact ⟨sa, sc, rfl, below_trans' hb2 hB⟩
/-- the first gaps -/
def gapsTo (l : List Rat) (m : Nat) : List Rat := (List.range m).map (fun j => l.getD (j + 1) 0 - l.getD j 0)
theorem gapsTo_succ (l : List Rat) (m : Nat) : gapsTo l (m + 1) = gapsTo l m ++ [l.getD (m + 1) 0 - l.getD m 0] := by simp [gapsTo, List.range_succ]
theorem gapsTo_length (l : List Rat) (m : Nat) : (gapsTo l m).length = m := by simp [gapsTo]
theorem getD_eq {l : List Rat} {k : Nat} (h : k < l.length) : l.getD k 0 = l[k] := by simp [h]
set_option maxRecDepth 100000 in
set_option maxHeartbeats 1600000 in
theorem gaps_ok (l : List Rat) (v : Value) (w : World) (hG : Glo w) (hv : IsStrs w v (l.map numS)) (hp : Poss l) (hl1 : 1 ≤ l.length) :
    Calls Tryz.prog 61 #[v] w (RetNumsE (gapsTo l (l.length - 1)) w) := by
  have HCK := Lib.hid (fun W (hB : Below w.heap.size w W) => spCheck_ok l v W (hG.below hB) (hv.below hB) hp)
  obtain ⟨a, n, cap, rfl⟩ : ∃ a n cap, v = .slice a n cap := by obtain ⟨a, cap, h, _⟩ := hv; exact ⟨_, _, _, h⟩
  obtain ⟨rfl, hc⟩ := strs_cells hv
  obtain ⟨b, off, rfl, hcell⟩ := hc (by intro h; rw [h] at hl1; simp at hl1)
  obtain ⟨i0, hi0, hz0, hz1, hz2⟩ := info_parts Tryz.infoNum
  have HC := Lib.hid hcell
  have HP := Lib.hid hp
  have HG := Lib.hid hG
  have hl := hp.len
  clear hc hp hG hv hcell
  go_enter Tryz.func61, Tryz.ntmps61
  go_wp2_with fail
  refine (HCK.out _ (by repeat (first | (with_reducible first | exact Below.refl _ _ | refine Below.setCell ?_ ?_ _ | refine below_drewN ?_ _ | refine Below.drew ?_ | refine below_alloc ?_ _ | refine below_trans'' (by assumption) ?_) | exact Nat.le_refl _ | (focus (simp; done)) | (focus (simp; omega)) | omega))).mono ?_
  rintro e w1 ⟨rfl, hB1⟩
  have hb1 : Below w.heap.size w w1 := (by repeat (first | (with_reducible first | exact Below.refl _ _ | refine Below.setCell ?_ ?_ _ | refine below_drewN ?_ _ | refine Below.drew ?_ | refine below_alloc ?_ _ | refine below_trans'' (by assumption) ?_) | exact Nat.le_refl _ | (focus (simp; done)) | (focus (simp; omega)) | omega))
  clear hB1 HCK
  go_wp2_with fail
  go_loopw [4, 5] (fun s i wr => ∃ (k m : Nat) (sa : Option Addr) (sc : Nat), Hid (k = m + 1) ∧ k ≤ l.length ∧ i = .int .i64 k ∧ s = .slice sa m sc ∧ wr.ownsRow w1.heap.size 38 1 (.slice sa m sc) m (numVs (gapsTo l m)) ∧ Below w1.heap.size w1 wr) (fun _ i _ => l.length - (intOf i).toNat)
  case atStart => exact ⟨1, 0, none, 0, Lib.hid rfl, hl1, rfl, rfl, World.ownsRow_nil _ _ _ _, Below.refl _ _⟩
  case round =>
    obtain ⟨k, m, sa, sc, hkm, hk, rfl, rfl, hrow, hB⟩ := hrel
    by_cases hlt : k < l.length
    · have hml : m < l.length := by have := hkm.out; omega
      have hbw := below_trans' hb1 hB
      have hltI : (k : Int) < (l.length : Int) := by omega
      have hkj : (k : Int) - 1 = (m : Int) := by have := hkm.out; omega
      have hjI : (m : Int) < (l.length : Int) := by omega
      have hmw : IntKind.i64.wrap (m : Int) = (m : Int) := IntWalk.i64_in _ (by omega)
      have HROW := Lib.hid hrow
      have HTK := Lib.hid (show numVs (gapsTo l (m + 1)) = numVs (gapsTo l m) ++ [.string (numS (l[k] - l[m]))] by rw [gapsTo_succ, ← hkm.out, getD_eq hlt, getD_eq hml]; simp [numVs])
      have HSUB := Lib.hid (fun W (hB : Below w.heap.size w W) => Sub_small (p := l[k]) (q := l[m]) (numS l[k]) (numS l[m]) W (HG.out.below hB) (numS_list _) (HP.out.small k hlt) (numS_list _) (HP.out.small m hml))
      have hR : (wr.drew.cell? ⟨b, off + k, none⟩ = some (.string (numS l[k])) ∧ wr.drew.cell? ⟨b, off + m, none⟩ = some (.string (numS l[m]))) ∧ Below wr.heap.size wr wr.drew := ⟨⟨keep (Below.refl _ _).drew (keep hbw (HC.out k hlt)), keep (Below.refl _ _).drew (keep hbw (HC.out m hml))⟩, (Below.refl _ _).drew⟩
      obtain ⟨xk, hxk⟩ : ∃ x, numS l[k] = x := ⟨_, rfl⟩
      obtain ⟨xm, hxm⟩ : ∃ x, numS l[m] = x := ⟨_, rfl⟩
      rw [hxk, hxm] at hR HSUB
      clear hrow hxk hxm
      go_wp2_with fail
      refine region_S (F := []) (R := (fun w' => (w'.cell? ⟨b, off + k, none⟩ = some (.string xk) ∧ w'.cell? ⟨b, off + m, none⟩ = some (.string xm)) ∧ Below wr.heap.size wr w')) 15 #[false, false, false, false, false, false, false, false, false, false, false, false, false, false, false] (by kernel_rfl) (by kernel_rfl) (by kernel_rfl) (fun _ _ _ _ _ h => h) (fun Q' hQ' hN => ?_)
      generalize wr.drew = wz at *
      refine takeS 18 (i := 0) (v := ?_) (fw := 4) hQ' hR rfl (by kernel_rfl) (by kernel_rfl) (by kernel_rfl) (by kernel_rfl) (by kernel_rfl) (by kernel_rfl) ?_ ?_; rotate_left; (focus (intro wq hRq; obtain ⟨⟨c0, c1⟩, _⟩ := hRq; go_simp; (try with_reducible rfl))); (try simp only [Act.put, List.setIfInBounds_toArray, List.set_cons_zero, List.set_cons_succ])
      refine takeS 19 (i := 1) (v := ?_) (fw := 4) hQ' hR rfl (by kernel_rfl) (by kernel_rfl) (by kernel_rfl) (by kernel_rfl) (by kernel_rfl) (by kernel_rfl) ?_ ?_; rotate_left; (focus (intro wq hRq; obtain ⟨⟨c0, c1⟩, _⟩ := hRq; go_simp; (try with_reducible rfl))); (try simp only [Act.put, List.setIfInBounds_toArray, List.set_cons_zero, List.set_cons_succ])
      refine takeS 20 (i := 2) (v := ?_) (fw := 4) hQ' hR rfl (by kernel_rfl) (by kernel_rfl) (by kernel_rfl) (by kernel_rfl) (by kernel_rfl) (by kernel_rfl) ?_ ?_; rotate_left; (focus (intro wq hRq; obtain ⟨⟨c0, c1⟩, _⟩ := hRq; go_simp; (try with_reducible rfl))); (try simp only [Act.put, List.setIfInBounds_toArray, List.set_cons_zero, List.set_cons_succ])
      refine takeS 21 (i := 3) (v := ?_) (fw := 4) hQ' hR rfl (by kernel_rfl) (by kernel_rfl) (by kernel_rfl) (by kernel_rfl) (by kernel_rfl) (by kernel_rfl) ?_ ?_; rotate_left; (focus (intro wq hRq; obtain ⟨⟨c0, c1⟩, _⟩ := hRq; go_simp; (try with_reducible rfl))); (try simp only [Act.put, List.setIfInBounds_toArray, List.set_cons_zero, List.set_cons_succ])
      refine takeS 22 (i := 4) (v := ?_) (fw := 4) hQ' hR rfl (by kernel_rfl) (by kernel_rfl) (by kernel_rfl) (by kernel_rfl) (by kernel_rfl) (by kernel_rfl) ?_ ?_; rotate_left; (focus (intro wq hRq; obtain ⟨⟨c0, c1⟩, _⟩ := hRq; go_simp; (try with_reducible rfl))); (try simp only [Act.put, List.setIfInBounds_toArray, List.set_cons_zero, List.set_cons_succ])
      refine takeS 23 (i := 5) (v := ?_) (fw := 4) hQ' hR rfl (by kernel_rfl) (by kernel_rfl) (by kernel_rfl) (by kernel_rfl) (by kernel_rfl) (by kernel_rfl) ?_ ?_; rotate_left; (focus (intro wq hRq; obtain ⟨⟨c0, c1⟩, _⟩ := hRq; go_simp; (try with_reducible rfl))); (try simp only [Act.put, List.setIfInBounds_toArray, List.set_cons_zero, List.set_cons_succ])
      refine takeS 24 (i := 6) (v := ?_) (fw := 4) hQ' hR rfl (by kernel_rfl) (by kernel_rfl) (by kernel_rfl) (by kernel_rfl) (by kernel_rfl) (by kernel_rfl) ?_ ?_; rotate_left; (focus (intro wq hRq; obtain ⟨⟨c0, c1⟩, _⟩ := hRq; go_simp; (try with_reducible rfl))); (try simp only [Act.put, List.setIfInBounds_toArray, List.set_cons_zero, List.set_cons_succ])
      refine takeS 25 (i := 7) (v := ?_) (fw := 4) hQ' hR rfl (by kernel_rfl) (by kernel_rfl) (by kernel_rfl) (by kernel_rfl) (by kernel_rfl) (by kernel_rfl) ?_ ?_; rotate_left; (focus (intro wq hRq; obtain ⟨⟨c0, c1⟩, _⟩ := hRq; go_simp; (try with_reducible rfl))); (try simp only [Act.put, List.setIfInBounds_toArray, List.set_cons_zero, List.set_cons_succ])
      refine takeS 26 (i := 8) (v := ?_) (fw := 4) hQ' hR rfl (by kernel_rfl) (by kernel_rfl) (by kernel_rfl) (by kernel_rfl) (by kernel_rfl) (by kernel_rfl) ?_ ?_; rotate_left; (focus (intro wq hRq; obtain ⟨⟨c0, c1⟩, _⟩ := hRq; go_simp; (try with_reducible rfl))); (try simp only [Act.put, List.setIfInBounds_toArray, List.set_cons_zero, List.set_cons_succ])
      refine wpAnyS_ready (rs := [9]) (by kernel_rfl) (by simp) ?_
      refine stepR (i := 9) rfl (by kernel_rfl) (fun K hK => ?_) (AllReadyS.nil)
      go_simp
      refine (HSUB.out _ (hbw.trans (hR.2.mono hbw.size))).mono ?_
      rintro e wn ⟨rs, hrs, rfl, hB'⟩
      have hR : (wn.cell? ⟨b, off + k, none⟩ = some (.string xk) ∧ wn.cell? ⟨b, off + m, none⟩ = some (.string xm)) ∧ Below wr.heap.size wr wn := ⟨⟨keep hB' hR.1.1, keep hB' hR.1.2⟩, below_trans' hR.2 hB'⟩
      refine hK.out _ _ hR ?_
      clear hK K
      (try simp only [Act.put, List.setIfInBounds_toArray, List.set_cons_zero, List.set_cons_succ])
      refine takeS 17 (i := 10) (v := ?_) (fw := 4) hQ' hR rfl (by kernel_rfl) (by kernel_rfl) (by kernel_rfl) (by kernel_rfl) (by kernel_rfl) (by kernel_rfl) ?_ ?_; rotate_left; (focus (intro wq hRq; obtain ⟨⟨c0, c1⟩, _⟩ := hRq; go_simp; (try with_reducible rfl))); (try simp only [Act.put, List.setIfInBounds_toArray, List.set_cons_zero, List.set_cons_succ])
      refine takeS 28 (i := 11) (v := ?_) (fw := 4) hQ' hR rfl (by kernel_rfl) (by kernel_rfl) (by kernel_rfl) (by kernel_rfl) (by kernel_rfl) (by kernel_rfl) ?_ ?_; rotate_left; (focus (intro wq hRq; obtain ⟨⟨c0, c1⟩, _⟩ := hRq; go_simp; (try with_reducible rfl))); (try simp only [Act.put, List.setIfInBounds_toArray, List.set_cons_zero, List.set_cons_succ])
      refine takeS 29 (i := 12) (v := ?_) (fw := 4) hQ' hR rfl (by kernel_rfl) (by kernel_rfl) (by kernel_rfl) (by kernel_rfl) (by kernel_rfl) (by kernel_rfl) ?_ ?_; rotate_left; (focus (intro wq hRq; obtain ⟨⟨c0, c1⟩, _⟩ := hRq; go_simp; (try with_reducible rfl))); (try simp only [Act.put, List.setIfInBounds_toArray, List.set_cons_zero, List.set_cons_succ])
      refine takeS 6 (i := 13) (v := ?_) (fw := 4) hQ' hR rfl (by kernel_rfl) (by kernel_rfl) (by kernel_rfl) (by kernel_rfl) (by kernel_rfl) (by kernel_rfl) ?_ ?_; rotate_left; (focus (intro wq hRq; obtain ⟨⟨c0, c1⟩, _⟩ := hRq; go_simp; (try with_reducible rfl))); (try simp only [Act.put, List.setIfInBounds_toArray, List.set_cons_zero, List.set_cons_succ])
      refine takeS 7 (i := 14) (v := ?_) (fw := 4) hQ' hR rfl (by kernel_rfl) (by kernel_rfl) (by kernel_rfl) (by kernel_rfl) (by kernel_rfl) (by kernel_rfl) ?_ ?_; rotate_left; (focus (intro wq hRq; obtain ⟨⟨c0, c1⟩, _⟩ := hRq; go_simp; (try with_reducible rfl))); (try simp only [Act.put, List.setIfInBounds_toArray, List.set_cons_zero, List.set_cons_succ])
      refine wpAnyS_done (by kernel_rfl) ?_ _
      refine hN.out _ _ ?_
      have HRS := Lib.hid (show rs = numS (l[k] - l[m]) from numS_of hrs)
      have hBW := hR.2
      clear hrs hR hkj
      have hBC := below_trans' hB hBW
      have hrow4 := rowKeep HROW.out (fun j hj hjl => hBW.block j hjl)
      have HROW4 := Lib.hid (hrow4.alloc (.cells #[.string rs] 38))
      have n1 := Lib.hid (show m + 1 ≤ maxLen by unfold maxLen; omega)
      have n2 := Lib.hid (show (m + 1) * 16 ≤ 140737488355328 by omega)
      have n3 := Lib.hid (show w1.heap.size ≤ (wn.alloc (.cells #[.string rs] 38)).heap.size by simp; have := hBC.size; omega)
      have KEY := Lib.hid (fun (v' : Value) (W : World) (ho : W.ownsRow w1.heap.size 38 1 v' (m + 1) (numVs (gapsTo l m) ++ [.string rs])) (hg : (wn.alloc (.cells #[.string rs] 38)).grownBy W (Value.slice sa m sc).ownBlock) => (⟨ho, num_grown hrow4 hBC hg⟩ : W.ownsRow w1.heap.size 38 1 v' (m + 1) (numVs (gapsTo l m) ++ [.string rs]) ∧ Below w1.heap.size w1 W))
      clear hrow4 hBC hBW HROW
      go_wp2_with (at_builtin; refine wpList_append_own _ rfl _ _ 27 rfl w1.heap.size 38 i0 (.string ⟨#[]⟩) 1 16 Tryz.underlying27 hi0 hz0 hz1 hz2 rfl (by decide) _ m _ rfl HROW4.out ⟨wn.heap.size, 0, none⟩ 1 1 [.string rs] rfl rfl (cell_one_new _ _ _) (by simp [Value.oneCell']) n1.out n2.out n3.out ?_; intro v' w5 hown' hgrow5 hnil5; have HK := Lib.hid (KEY.out v' w5 hown' hgrow5); obtain ⟨sa2, sc2, rfl, _⟩ := row_shape hown'; clear hown' hgrow5 hnil5)
      go_roundw
      case rel => exact ⟨k + 1, m + 1, sa2, sc2, Lib.hid (by rw [hkm.out]), by omega, by go_num, rfl, by rw [HTK.out, ← HRS.out]; exact HK.out.1, HK.out.2⟩
      case measure => simp [intOf]; omega
    · have e : k = l.length := by omega
      subst e
      have em : l.length - 1 = m := by have := hkm.out; omega
      have EM := Lib.hid em
      have HROW := Lib.hid hrow
      have hltI : ¬ (l.length : Int) < (l.length : Int) := by omega
      clear em hrow
      go_wp2_with fail
      go_ret2
      exact ⟨_, rfl, by rw [EM.out, gapsTo_length]; exact ownsRow_base HROW.out hb1.size, below_trans' hb1 hB⟩
end Go.Proofs.YtjpigaobeegbgaaGreatDoor
