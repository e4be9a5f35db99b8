/- Walks: rational.cut, read, Parts, Int, Check at valid numbers. -/
import Derived.Test.YtjpigaobeegbgaaGreatDoorWCut
namespace Go.Proofs.YtjpigaobeegbgaaGreatDoor
open Go.RowKit
def RetP (q : Rat) (v : Value) (w : World) (e : Ending) (w' : World) : Prop := ∃ a b : ByteArray, Hid (a.data.toList = Lib.itoa q.num) ∧ Hid (b.data.toList = Lib.decDigits q.den) ∧ e = .returned (.tuple #[.agg #[.string a, .string b], v]) ∧ Below w.heap.size w w'
theorem one_digits : Lib.decDigits 1 = [49] := by rw [Lib.decDigits_one (by omega)]; decide
theorem digits_dec {n : Nat} (s : ByteArray) (w : World) (hs : s.size ≤ maxLen) (h : s.data.toList = Lib.decDigits n) :
    Calls Tryz.prog 171 #[.string s] w (RetQ (.int .i64 (s.size : Nat)) w) := by
  have := digits_any s w hs
  rw [h, digs_dec, ← h] at this
  exact this
theorem size_dec {s : ByteArray} {n : Nat} (h : s.data.toList = Lib.decDigits n) : ((s.size : Int) == 0) = false := by
  have : s.size ≠ 0 := fun h0 => decDigits_ne n (by rw [← h]; exact data_nil h0)
  simp [this]
theorem ne_of_list {s : ByteArray} {l m : List UInt8} (h : s.data.toList = l) (hn : l ≠ m) : (s.toList == m) = false := by
  rw [Lib.toList_data, h]; simpa using hn
set_option maxRecDepth 100000 in
set_option maxHeartbeats 800000 in
theorem cut_valid {q : Rat} (s : ByteArray) (w : World) (hG : Glo w) (hs : s.data.toList = ratText q) (hl : s.size < 4294967281) :
    Calls Tryz.prog 119 #[.string s] w (RetP q (.bool true) w) := by
  have HG := Lib.hid hG
  have htr := trim_itoa q.num
  have HT := Lib.hid htr.1
  have hneg : ∃ c, Lib.hasPrefix (Lib.itoa q.num) [45] = c ∧ (c = true → Lib.decDigits q.num.natAbs ≠ [48]) := ⟨_, rfl, fun h => dec_ne_zero (htr.2 h)⟩
  obtain ⟨c, hp, hz⟩ := hneg
  have HP := Lib.hid hp
  have HZ := Lib.hid hz
  clear hp hz htr
  by_cases h1 : q.den = 1
  · have hc : Lib.cut s.data.toList [47] = (Lib.itoa q.num, [], false) := by
      rw [hs, ratText, if_pos h1]; exact cut_itoa _
    have hq1 : ([49] : List UInt8) = Lib.decDigits q.den := by rw [h1]; exact one_digits.symm
    have HC := Lib.hid hc
    have H1 := Lib.hid hq1
    have hll : (Lib.itoa q.num).length = s.size := by rw [← show s.data.toList.length = s.size from rfl, hs, ratText, if_pos h1]
    have HL := Lib.hid hll
    clear hs hG hc hq1 h1 hll
    cases c
    all_goals
      go_enter Tryz.func119, Tryz.ntmps119
      go_wp2_with fail
      refine (cut_any _ _ _ (HG.out.below (by repeat (first | (with_reducible first | exact Below.refl _ _ | refine Below.setCell ?_ ?_ _ | refine below_drewN ?_ _ | refine Below.drew ?_ | refine below_alloc ?_ _ | refine below_trans'' (by assumption) ?_) | exact Nat.le_refl _ | (focus (simp; done)) | (focus (simp; omega)) | omega))) hl HC.out).mono ?_
      rintro e w1 ⟨a, b, ha, hb, rfl, n1, rfl⟩
      have hx := HT.out
      have hy := HP.out
      rw [← ha.out] at hx hy
      have HX := Lib.hid hx
      have HY := Lib.hid hy
      clear hx hy
      go_wp2_with fail
      refine (cutPrefix_any a _ _ HX.out HY.out).mono ?_
      rintro e w2 ⟨o, ho, rfl, rfl⟩
      have hol : o.size ≤ maxLen := by
        have e1 : o.size = (Lib.decDigits q.num.natAbs).length := by rw [← ho.out]; rfl
        have e2 := (trim_len q.num)
        have e3 := HL.out
        unfold maxLen; omega
      have hz1 := size_dec ho.out
      first | (have hz2 := ne_of_list ho.out (HZ.out trivial)) | (have hz2 := ne_of_list ho.out (HZ.out rfl)) | skip
      go_wp2_with fail
      refine (digits_dec o _ hol ho.out).mono ?_
      rintro e w3 ⟨rfl, n2, rfl⟩
      go_wp2_with fail
      refine bodyPost_ret (v := .tuple #[.agg #[.string a, .string ⟨#[49]⟩], .bool true]) (by simp [results, Tryz.results119, go_sem]) rfl ⟨a, ⟨#[49]⟩, ha, H1.out, rfl, (by repeat (first | (with_reducible first | exact Below.refl _ _ | refine Below.setCell ?_ ?_ _ | refine below_drewN ?_ _ | refine Below.drew ?_ | refine below_alloc ?_ _ | refine below_trans'' (by assumption) ?_) | exact Nat.le_refl _ | (focus (simp; done)) | (focus (simp; omega)) | omega))⟩
  · have hc : Lib.cut s.data.toList [47] = (Lib.itoa q.num, Lib.decDigits q.den, true) := by
      rw [hs, ratText, if_neg h1]; exact cut_frac _ _
    have HC := Lib.hid hc
    have hll : (Lib.itoa q.num).length + (Lib.decDigits q.den).length < s.size := by rw [← show s.data.toList.length = s.size from rfl, hs, ratText, if_neg h1]; simp
    have HL := Lib.hid hll
    have hd0 := dec_ne_zero q.den_pos
    have hd1 := dec_ne_one h1
    have HD0 := Lib.hid hd0
    have HD1 := Lib.hid hd1
    clear hs hG hc h1 hll hd0 hd1
    cases c
    all_goals
      go_enter Tryz.func119, Tryz.ntmps119
      go_wp2_with fail
      refine (cut_any _ _ _ (HG.out.below (by repeat (first | (with_reducible first | exact Below.refl _ _ | refine Below.setCell ?_ ?_ _ | refine below_drewN ?_ _ | refine Below.drew ?_ | refine below_alloc ?_ _ | refine below_trans'' (by assumption) ?_) | exact Nat.le_refl _ | (focus (simp; done)) | (focus (simp; omega)) | omega))) hl HC.out).mono ?_
      rintro e w1 ⟨a, b, ha, hb, rfl, n1, rfl⟩
      have hx := HT.out
      have hy := HP.out
      rw [← ha.out] at hx hy
      have HX := Lib.hid hx
      have HY := Lib.hid hy
      clear hx hy
      go_wp2_with fail
      refine (cutPrefix_any a _ _ HX.out HY.out).mono ?_
      rintro e w2 ⟨o, ho, rfl, rfl⟩
      have hol : o.size ≤ maxLen := by
        have e1 : o.size = (Lib.decDigits q.num.natAbs).length := by rw [← ho.out]; rfl
        have e2 := (trim_len q.num)
        have e3 := HL.out
        unfold maxLen; omega
      have hz1 := size_dec ho.out
      first | (have hz2 := ne_of_list ho.out (HZ.out trivial)) | (have hz2 := ne_of_list ho.out (HZ.out rfl)) | skip
      go_wp2_with fail
      refine (digits_dec o _ hol ho.out).mono ?_
      rintro e w3 ⟨rfl, n2, rfl⟩
      have hbl : b.size ≤ maxLen := by
        have e1 : b.size = (Lib.decDigits q.den).length := by rw [← hb.out]; rfl
        have e3 := HL.out
        unfold maxLen; omega
      have hb1 := size_dec hb.out
      have hb2 := ne_of_list hb.out HD0.out
      have hb3 := ne_of_list hb.out HD1.out
      go_wp2_with fail
      refine (digits_dec b _ hbl hb.out).mono ?_
      rintro e w4 ⟨rfl, n3, rfl⟩
      go_wp2_with fail
      refine bodyPost_ret (v := .tuple #[.agg #[.string a, .string b], .bool true]) (by simp [results, Tryz.results119, go_sem]) rfl ⟨a, b, ha, hb, rfl, (by repeat (first | (with_reducible first | exact Below.refl _ _ | refine Below.setCell ?_ ?_ _ | refine below_drewN ?_ _ | refine Below.drew ?_ | refine below_alloc ?_ _ | refine below_trans'' (by assumption) ?_) | exact Nat.le_refl _ | (focus (simp; done)) | (focus (simp; omega)) | omega))⟩
set_option maxRecDepth 100000 in
set_option maxHeartbeats 800000 in
theorem read_small {q : Rat} (s : ByteArray) (w : World) (hG : Glo w) (hs : s.data.toList = ratText q) (hq : Small q) :
    Calls Tryz.prog 64 #[.string s] w (RetP q (.int .i64 0) w) := by
  have HS := Lib.hid hs
  have HG := Lib.hid hG
  have hl : s.size < 4294967281 := by
    have h1 := ratText_le hq
    rw [← hs] at h1
    have e : s.size = s.data.toList.length := rfl
    omega
  clear hs hG
  go_enter Tryz.func64, Tryz.ntmps64
  go_wp2_with fail
  refine (cut_valid s _ (HG.out.below (by repeat (first | (with_reducible first | exact Below.refl _ _ | refine Below.setCell ?_ ?_ _ | refine below_drewN ?_ _ | refine Below.drew ?_ | refine below_alloc ?_ _ | refine below_trans'' (by assumption) ?_) | exact Nat.le_refl _ | (focus (simp; done)) | (focus (simp; omega)) | omega))) HS.out hl).mono ?_
  rintro e w1 ⟨a, b, ha, hb, rfl, hB1⟩
  obtain ⟨hc1, hf1⟩ := bcell hB1
  have z1 := hB1.size
  simp only [World.size_alloc] at z1
  have z1' : w.heap.size < w1.heap.size := by omega
  have c0 : w1.cell? ⟨w.heap.size, 0, none⟩ = some (.string ⟨#[]⟩) := by rw [hc1 _ _ (by simp)]; simp [go_sem]
  have c1 : w1.cell? ⟨w.heap.size, 1, none⟩ = some (.string ⟨#[]⟩) := by rw [hc1 _ _ (by simp)]; simp [go_sem]
  have g0 : w1.frozen? ⟨w.heap.size, 0, none⟩ = false := by rw [hf1 _ _ (by simp)]; simp [go_sem]
  have g1 : w1.frozen? ⟨w.heap.size, 1, none⟩ = false := by rw [hf1 _ _ (by simp)]; simp [go_sem]
  clear hc1 hf1
  go_wp2_with fail
  refine (nativeOf_small s _ HS.out hq).mono ?_
  rintro e w2 ⟨rfl, hB2⟩
  obtain ⟨hc2, hf2⟩ := bcell hB2
  have z2 := hB2.size
  simp only [World.size_alloc] at z2
  have z2' : w.heap.size < w2.heap.size := by omega
  have z2'' : w1.heap.size < w2.heap.size := by omega
  have c0' : w2.cell? ⟨w.heap.size, 0, none⟩ = some (.string ⟨#[]⟩) := by rw [hc2 _ _ (by simp; omega)]; simp [go_sem, c0, z1']
  have c1' : w2.cell? ⟨w.heap.size, 1, none⟩ = some (.string ⟨#[]⟩) := by rw [hc2 _ _ (by simp; omega)]; simp [go_sem, c1, z1']
  have g0' : w2.frozen? ⟨w.heap.size, 0, none⟩ = false := by rw [hf2 _ _ (by simp; omega)]; simp [go_sem, g0, z1']
  have g1' : w2.frozen? ⟨w.heap.size, 1, none⟩ = false := by rw [hf2 _ _ (by simp; omega)]; simp [go_sem, g1, z1']
  have c2 : w2.cell? ⟨w1.heap.size, 0, none⟩ = some (.string a) := by rw [hc2 _ _ (by simp)]; simp [go_sem]
  have c3 : w2.cell? ⟨w1.heap.size, 1, none⟩ = some (.string b) := by rw [hc2 _ _ (by simp)]; simp [go_sem]
  clear hc2 hf2 c0 c1 g0 g1
  go_wp2_with fail
  refine bodyPost_ret (v := .tuple #[.agg #[.string a, .string b], .int .i64 0]) (by simp [results, Tryz.results64, go_sem, c0', c1', c2, c3, z2', z2'']) rfl ⟨a, b, ha, hb, rfl, (by repeat (first | (with_reducible first | exact Below.refl _ _ | refine Below.setCell ?_ ?_ _ | refine below_drewN ?_ _ | refine Below.drew ?_ | refine below_alloc ?_ _ | refine below_trans'' (by assumption) ?_) | exact Nat.le_refl _ | (focus (simp; done)) | (focus (simp; omega)) | omega))⟩
end Go.Proofs.YtjpigaobeegbgaaGreatDoor
