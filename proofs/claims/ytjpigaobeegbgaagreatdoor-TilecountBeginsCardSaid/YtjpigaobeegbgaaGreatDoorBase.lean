/- What all walks use: the forms of posts, the library's contracts in these forms. -/
import Derived.Test.YtjpigaobeegbgaaGreatDoorProg
import Derived.Test.YtjpigaobeegbgaaGreatDoorShelf
import Derived.Test.YtjpigaobeegbgaaGreatDoorTxt
import Derived.WalkKit
import Derived.WalkSpells
import Derived.WalkLawsBesides
import Derived.WalkSmall
import Derived.Deep.QuietTactic
import Derived.BigQuiet
import Derived.Outline
import Derived.Deep.DeepCutAuto
import Derived.Deep.CutBlock
import Derived.Lib.Hide
import Derived.Lib.ItoaLen
import Derived.Shelf.Strings.SlTrimAscii
namespace Go.Proofs.YtjpigaobeegbgaaGreatDoor
open Go.RowKit
def RetQ (v : Value) (w : World) (e : Ending) (w' : World) : Prop := e = .returned v ∧ ∃ n, w' = w.drewN n
def RetB (v : Value) (w : World) (e : Ending) (w' : World) : Prop := e = .returned v ∧ Below w.heap.size w w'
/-- a text is returned -/
def RetS (l : List UInt8) (w : World) (e : Ending) (w' : World) : Prop := ∃ s : ByteArray, s.data.toList = l ∧ e = .returned (.string s) ∧ Below w.heap.size w w'
theorem drewN_add (w : World) (a b : Nat) : (w.drewN a).drewN b = w.drewN (a + b) := by simp [World.drewN, Nat.add_assoc]
theorem below_drewN {B : Nat} {a w : World} (h : Below B a w) (n : Nat) : Below B a (w.drewN n) := ⟨h.os, h.tape, h.output, h.size, h.block⟩
theorem below_grow {B : Nat} {a w : World} (h : Below B a w) (hB : B ≤ w.heap.size) (os : Array Obj) : Below B a (Go.Sort.grow w os) :=
  h.trans ⟨rfl, rfl, rfl, by simp [Go.Sort.grow], fun k hk => Go.Sort.heap_grow_old _ _ (by omega)⟩
theorem below_alloc {w X : World} (h : Below w.heap.size w X) (o : Obj) : Below w.heap.size w (X.alloc o) := h.alloc h.size o
theorem below_trans' {w X Y : World} (h : Below w.heap.size w X) (k : Below X.heap.size X Y) : Below w.heap.size w Y := h.trans (k.mono h.size)
theorem below_trans'' {w X Y : World} (k : Below X.heap.size X Y) (h : Below w.heap.size w X) : Below w.heap.size w Y := below_trans' h k
theorem ret_i64 {a b : Int} (h : a = b) : Value.int .i64 a = .int .i64 b := by rw [h]
theorem RetQ.b {v : Value} {w : World} {e : Ending} {w' : World} (h : RetQ v w e w') : RetB v w e w' := by
  obtain ⟨h1, n, rfl⟩ := h
  exact ⟨h1, below_drewN (Below.refl _ _) _⟩
theorem bcell {W w1 : World} (hb : Below W.heap.size W w1) : (∀ b o, b < W.heap.size → w1.cell? ⟨b, o, none⟩ = W.cell? ⟨b, o, none⟩) ∧ (∀ b o, b < W.heap.size → w1.frozen? ⟨b, o, none⟩ = W.frozen? ⟨b, o, none⟩) :=
  ⟨fun b o h => hb.cell (p := ⟨b, o, none⟩) h, fun b o h => hb.frozen (p := ⟨b, o, none⟩) h⟩
theorem lt_of_cell {w : World} {b o : Nat} {v : Value} (h : w.cell? ⟨b, o, none⟩ = some v) : b < w.heap.size := by
  by_cases hb : b < w.heap.size
  · exact hb
  · simp [World.cell?, Array.getElem?_eq_none (Nat.not_lt.1 hb)] at h
/-- a cell is kept -/
theorem keep {W W' : World} {b o : Nat} {v : Value} (hB : Below W.heap.size W W') (h : W.cell? ⟨b, o, none⟩ = some v) : W'.cell? ⟨b, o, none⟩ = some v := (hB.cell (p := ⟨b, o, none⟩) (lt_of_cell h)).trans h
theorem keepf {W W' : World} {b o : Nat} {v : Value} (hB : Below W.heap.size W W') (h : W.cell? ⟨b, o, none⟩ = some v) {c : Bool} (hf : W.frozen? ⟨b, o, none⟩ = c) : W'.frozen? ⟨b, o, none⟩ = c := (hB.frozen (p := ⟨b, o, none⟩) (lt_of_cell h)).trans hf
/-! texts -/
theorem extract_drop (s : ByteArray) (k : Nat) : s.extract k s.size = ⟨(s.data.toList.drop k).toArray⟩ := by
  apply ByteArray.ext
  apply Array.toList_inj.1
  rw [ByteArray.data_extract, Array.toList_extract]
  simp
  rw [List.take_of_length_le]; simp
theorem headqc {c : UInt8} {s : ByteArray} (h0 : 0 < s.size) (h : ((s[0].toNat : Int) == (c.toNat : Int)) = true) : s.data.toList.head? = some c := by
  have h1 : s[0].toNat = c.toNat := by have := eq_of_beq h; omega
  have h2 : s[0] = c := UInt8.toNat_inj.1 h1
  rw [List.head?_eq_getElem?, List.getElem?_eq_getElem (by exact h0)]
  exact congrArg some h2
theorem headqc' {c : UInt8} {s : ByteArray} (h0 : 0 < s.size) (h : s.data.toList.head? = some c) : ((s[0].toNat : Int) == (c.toNat : Int)) = true := by
  rw [List.head?_eq_getElem?, List.getElem?_eq_getElem (by exact h0)] at h
  have h2 : s[0] = c := Option.some.inj h
  rw [h2]; simp
theorem headq {s : ByteArray} (h0 : 0 < s.size) (h : ((s[0].toNat : Int) == 48) = true) : s.data.toList.head? = some 48 := headqc (c := 48) h0 h
theorem headq' {s : ByteArray} (h0 : 0 < s.size) (h : s.data.toList.head? = some 48) : ((s[0].toNat : Int) == 48) = true := headqc' (c := 48) h0 h
theorem headq45 {s : ByteArray} (h0 : 0 < s.size) (h : ((s[0].toNat : Int) == 45) = true) : s.data.toList.head? = some 45 := headqc (c := 45) h0 h
theorem headq45' {s : ByteArray} (h0 : 0 < s.size) (h : s.data.toList.head? = some 45) : ((s[0].toNat : Int) == 45) = true := headqc' (c := 45) h0 h
theorem toList_nil {s : ByteArray} (h : s.size = 0) : s.toList = [] := by
  rw [Lib.toList_data, ← List.length_eq_zero_iff]; exact h
theorem toList_ne {s : ByteArray} (h : ¬ s.size = 0) : ¬ s.toList = [] := by
  rw [Lib.toList_data, ← List.length_eq_zero_iff]; exact h
theorem toList_isEmpty {s : ByteArray} (h : ¬ s.size = 0) : s.toList.isEmpty = false := by
  have := toList_ne h
  cases hs : s.toList with
  | nil => exact absurd hs this
  | cons a l => rfl
theorem data_nil {s : ByteArray} (h : s.size = 0) : s.data.toList = [] := by
  rw [← List.length_eq_zero_iff]; exact h
theorem ba_eq {s : ByteArray} {l : List UInt8} (h : s.data.toList = l) : s = ⟨l.toArray⟩ := by subst h; simp
/-! the program's variables -/
/-- what the library's variables hold -/
def Glo (w : World) : Prop := Lib.TabIs Tryz.prog w "internal/strconv.uint64pow10" .u64 Lib.pow10Tab ∧ (∃ m, w.cell? ⟨3, 0, none⟩ = some (.int .i64 m)) ∧ 12 ≤ w.heap.size
theorem Glo.below {w w' : World} (h : Glo w) (hb : Below w.heap.size w w') : Glo w' := by
  obtain ⟨h1, ⟨m, h2⟩, h3⟩ := h
  refine ⟨?_, ⟨m, (hb.cell (p := ⟨3, 0, none⟩) (show 3 < _ by omega)).trans h2⟩, Nat.le_trans h3 hb.size⟩
  exact var?_below (g := 0) hb (by kernel_rfl) (by omega) h1
theorem keep1 {w W W' : World} {b0 o0 : Nat} {v0 : Value} (h : World.cell? W ⟨b0, o0, none⟩ = some v0 ∧ Below w.heap.size w W) (hB : Below W.heap.size W W') : World.cell? W' ⟨b0, o0, none⟩ = some v0 ∧ Below w.heap.size w W' := ⟨keep hB h.1, below_trans' h.2 hB⟩
theorem glo1 {w W : World} {b0 o0 : Nat} {v0 : Value} (hG : Glo w) (h : World.cell? W ⟨b0, o0, none⟩ = some v0 ∧ Below w.heap.size w W) : Glo W := hG.below h.2
theorem keep2 {w W W' : World} {b0 o0 b1 o1 : Nat} {v0 v1 : Value} (h : World.cell? W ⟨b0, o0, none⟩ = some v0 ∧ World.cell? W ⟨b1, o1, none⟩ = some v1 ∧ Below w.heap.size w W) (hB : Below W.heap.size W W') : World.cell? W' ⟨b0, o0, none⟩ = some v0 ∧ World.cell? W' ⟨b1, o1, none⟩ = some v1 ∧ Below w.heap.size w W' := ⟨keep hB h.1, keep hB h.2.1, below_trans' h.2.2 hB⟩
theorem glo2 {w W : World} {b0 o0 b1 o1 : Nat} {v0 v1 : Value} (hG : Glo w) (h : World.cell? W ⟨b0, o0, none⟩ = some v0 ∧ World.cell? W ⟨b1, o1, none⟩ = some v1 ∧ Below w.heap.size w W) : Glo W := hG.below h.2.2
theorem keep3 {w W W' : World} {b0 o0 b1 o1 b2 o2 : Nat} {v0 v1 v2 : Value} (h : World.cell? W ⟨b0, o0, none⟩ = some v0 ∧ World.cell? W ⟨b1, o1, none⟩ = some v1 ∧ World.cell? W ⟨b2, o2, none⟩ = some v2 ∧ Below w.heap.size w W) (hB : Below W.heap.size W W') : World.cell? W' ⟨b0, o0, none⟩ = some v0 ∧ World.cell? W' ⟨b1, o1, none⟩ = some v1 ∧ World.cell? W' ⟨b2, o2, none⟩ = some v2 ∧ Below w.heap.size w W' := ⟨keep hB h.1, keep hB h.2.1, keep hB h.2.2.1, below_trans' h.2.2.2 hB⟩
theorem glo3 {w W : World} {b0 o0 b1 o1 b2 o2 : Nat} {v0 v1 v2 : Value} (hG : Glo w) (h : World.cell? W ⟨b0, o0, none⟩ = some v0 ∧ World.cell? W ⟨b1, o1, none⟩ = some v1 ∧ World.cell? W ⟨b2, o2, none⟩ = some v2 ∧ Below w.heap.size w W) : Glo W := hG.below h.2.2.2
theorem keep4 {w W W' : World} {b0 o0 b1 o1 b2 o2 b3 o3 : Nat} {v0 v1 v2 v3 : Value} (h : World.cell? W ⟨b0, o0, none⟩ = some v0 ∧ World.cell? W ⟨b1, o1, none⟩ = some v1 ∧ World.cell? W ⟨b2, o2, none⟩ = some v2 ∧ World.cell? W ⟨b3, o3, none⟩ = some v3 ∧ Below w.heap.size w W) (hB : Below W.heap.size W W') : World.cell? W' ⟨b0, o0, none⟩ = some v0 ∧ World.cell? W' ⟨b1, o1, none⟩ = some v1 ∧ World.cell? W' ⟨b2, o2, none⟩ = some v2 ∧ World.cell? W' ⟨b3, o3, none⟩ = some v3 ∧ Below w.heap.size w W' := ⟨keep hB h.1, keep hB h.2.1, keep hB h.2.2.1, keep hB h.2.2.2.1, below_trans' h.2.2.2.2 hB⟩
theorem glo4 {w W : World} {b0 o0 b1 o1 b2 o2 b3 o3 : Nat} {v0 v1 v2 v3 : Value} (hG : Glo w) (h : World.cell? W ⟨b0, o0, none⟩ = some v0 ∧ World.cell? W ⟨b1, o1, none⟩ = some v1 ∧ World.cell? W ⟨b2, o2, none⟩ = some v2 ∧ World.cell? W ⟨b3, o3, none⟩ = some v3 ∧ Below w.heap.size w W) : Glo W := hG.below h.2.2.2.2
theorem keep5 {w W W' : World} {b0 o0 b1 o1 b2 o2 b3 o3 b4 o4 : Nat} {v0 v1 v2 v3 v4 : Value} (h : World.cell? W ⟨b0, o0, none⟩ = some v0 ∧ World.cell? W ⟨b1, o1, none⟩ = some v1 ∧ World.cell? W ⟨b2, o2, none⟩ = some v2 ∧ World.cell? W ⟨b3, o3, none⟩ = some v3 ∧ World.cell? W ⟨b4, o4, none⟩ = some v4 ∧ Below w.heap.size w W) (hB : Below W.heap.size W W') : World.cell? W' ⟨b0, o0, none⟩ = some v0 ∧ World.cell? W' ⟨b1, o1, none⟩ = some v1 ∧ World.cell? W' ⟨b2, o2, none⟩ = some v2 ∧ World.cell? W' ⟨b3, o3, none⟩ = some v3 ∧ World.cell? W' ⟨b4, o4, none⟩ = some v4 ∧ Below w.heap.size w W' := ⟨keep hB h.1, keep hB h.2.1, keep hB h.2.2.1, keep hB h.2.2.2.1, keep hB h.2.2.2.2.1, below_trans' h.2.2.2.2.2 hB⟩
theorem glo5 {w W : World} {b0 o0 b1 o1 b2 o2 b3 o3 b4 o4 : Nat} {v0 v1 v2 v3 v4 : Value} (hG : Glo w) (h : World.cell? W ⟨b0, o0, none⟩ = some v0 ∧ World.cell? W ⟨b1, o1, none⟩ = some v1 ∧ World.cell? W ⟨b2, o2, none⟩ = some v2 ∧ World.cell? W ⟨b3, o3, none⟩ = some v3 ∧ World.cell? W ⟨b4, o4, none⟩ = some v4 ∧ Below w.heap.size w W) : Glo W := hG.below h.2.2.2.2.2
theorem keep6 {w W W' : World} {b0 o0 b1 o1 b2 o2 b3 o3 b4 o4 b5 o5 : Nat} {v0 v1 v2 v3 v4 v5 : Value} (h : World.cell? W ⟨b0, o0, none⟩ = some v0 ∧ World.cell? W ⟨b1, o1, none⟩ = some v1 ∧ World.cell? W ⟨b2, o2, none⟩ = some v2 ∧ World.cell? W ⟨b3, o3, none⟩ = some v3 ∧ World.cell? W ⟨b4, o4, none⟩ = some v4 ∧ World.cell? W ⟨b5, o5, none⟩ = some v5 ∧ Below w.heap.size w W) (hB : Below W.heap.size W W') : World.cell? W' ⟨b0, o0, none⟩ = some v0 ∧ World.cell? W' ⟨b1, o1, none⟩ = some v1 ∧ World.cell? W' ⟨b2, o2, none⟩ = some v2 ∧ World.cell? W' ⟨b3, o3, none⟩ = some v3 ∧ World.cell? W' ⟨b4, o4, none⟩ = some v4 ∧ World.cell? W' ⟨b5, o5, none⟩ = some v5 ∧ Below w.heap.size w W' := ⟨keep hB h.1, keep hB h.2.1, keep hB h.2.2.1, keep hB h.2.2.2.1, keep hB h.2.2.2.2.1, keep hB h.2.2.2.2.2.1, below_trans' h.2.2.2.2.2.2 hB⟩
theorem glo6 {w W : World} {b0 o0 b1 o1 b2 o2 b3 o3 b4 o4 b5 o5 : Nat} {v0 v1 v2 v3 v4 v5 : Value} (hG : Glo w) (h : World.cell? W ⟨b0, o0, none⟩ = some v0 ∧ World.cell? W ⟨b1, o1, none⟩ = some v1 ∧ World.cell? W ⟨b2, o2, none⟩ = some v2 ∧ World.cell? W ⟨b3, o3, none⟩ = some v3 ∧ World.cell? W ⟨b4, o4, none⟩ = some v4 ∧ World.cell? W ⟨b5, o5, none⟩ = some v5 ∧ Below w.heap.size w W) : Glo W := hG.below h.2.2.2.2.2.2
theorem itoa_any (n : Int) (h0 : -9223372036854775808 ≤ n) (h1 : n ≤ 9223372036854775807) (w : World) (hG : Glo w) :
    Calls Tryz.prog 43 #[.int .i64 n] w (RetS (Lib.itoa n) w) :=
  (Tryz.strconv_Itoa n h0 h1 w hG.1).mono fun e w' ⟨he, k, os, hw⟩ => ⟨_, by simp, he, by rw [hw]; exact below_grow (below_drewN (Below.refl _ _) _) (Nat.le_refl _) _⟩
theorem below_bytesWorld (w : World) (e : TypeId) (t : ByteArray) : Below w.heap.size w (Lib.bytesWorld w e t) := by
  unfold Lib.bytesWorld
  have h1 : Below w.heap.size w (w.drew.alloc (.cells (Lib.bytesCells w e t) e)) := below_alloc (Below.refl _ _).drew _
  refine h1.trans ?_
  unfold World.freeze
  rw [if_neg (by omega)]
  refine ⟨rfl, rfl, rfl, by simp, fun k hk => ?_⟩
  simp only [Array.getElem?_modify]
  rw [if_neg (by omega)]
/-- strings.Cut -/
theorem cut_any (s sep : ByteArray) (w : World) (hG : Glo w) (hs : s.size < 4294967281) {a b : List UInt8} {c : Bool} (h : Lib.cut s.data.toList sep.data.toList = (a, b, c)) :
    Calls Tryz.prog 170 #[.string s, .string sep] w fun e w' => ∃ a' b' : ByteArray, Hid (a'.data.toList = a) ∧ Hid (b'.data.toList = b) ∧ e = .returned (.tuple #[.string a', .string b', .bool c]) ∧ ∃ n, w' = w.drewN n := by
  obtain ⟨m, hm⟩ := hG.2.1
  have := Tryz.strings_Cut s sep m w hs hm
  rw [h] at this
  exact this.mono fun e w' ⟨h1, h2⟩ => ⟨⟨a.toArray⟩, ⟨b.toArray⟩, Lib.hid (by simp), Lib.hid (by simp), h1, h2⟩
/-- strings.CutPrefix -/
theorem cutPrefix_any (s p : ByteArray) (w : World) {a : List UInt8} {c : Bool} (h : Lib.trimPrefix s.data.toList p.data.toList = a) (hc : Lib.hasPrefix s.data.toList p.data.toList = c) :
    Calls Tryz.prog 143 #[.string s, .string p] w fun e w' => ∃ a' : ByteArray, Hid (a'.data.toList = a) ∧ e = .returned (.tuple #[.string a', .bool c]) ∧ w = w' := by
  subst h; subst hc
  exact (Tryz.strings_CutPrefix s p w).mono fun e w' ⟨h1, h2⟩ => ⟨_, Lib.hid (by simp), h1, h2.symm⟩
/-- strings.TrimPrefix -/
theorem trimPrefix_any (s p : ByteArray) (w : World) {a : List UInt8} (h : Lib.trimPrefix s.data.toList p.data.toList = a) :
    Calls Tryz.prog 120 #[.string s, .string p] w fun e w' => ∃ a' : ByteArray, Hid (a'.data.toList = a) ∧ e = .returned (.string a') ∧ w = w' := by
  subst h
  exact (Tryz.strings_TrimPrefix s p w).mono fun e w' ⟨h1, h2⟩ => ⟨_, Lib.hid (by simp), h1, h2.symm⟩
/-- strings.Trim at the digits -/
theorem trimDigits_any (s : ByteArray) (w : World) (hs : s.size ≤ 9223372036854775807) {l : List UInt8} (h : Lib.trimS s.data.toList [48, 49, 50, 51, 52, 53, 54, 55, 56, 57] = l) :
    Calls Tryz.prog 205 #[.string s, .string ⟨#[48, 49, 50, 51, 52, 53, 54, 55, 56, 57]⟩] w fun e w' => ∃ a' : ByteArray, Hid (a'.data.toList = l) ∧ e = .returned (.string a') ∧ Below w.heap.size w w' := by
  subst h
  exact (Any.strings_Trim_laid Tryz.lays160 (by kernel_rfl) s ⟨#[48, 49, 50, 51, 52, 53, 54, 55, 56, 57]⟩ w hs (by decide) (ascii_of_all (by decide))).mono fun e w' ⟨h1, h2⟩ => ⟨_, Lib.hid (by simp), h1, h2⟩
/-- strconv.Atoi at an integer's text -/
theorem atoi_any (s : ByteArray) (w : World) (hs : s.size ≤ 1000) {v : Int} (h : Lib.atoiAll s.data.toList = .ok v) :
    Calls Tryz.prog 96 #[.string s] w (RetB (.tuple #[.int .i64 v, .nilIface]) w) :=
  (Tryz.strconv_Atoi_ok s (by omega) v h w).mono fun e w' ⟨h1, h2⟩ => ⟨h1, by
    rcases h2 with rfl | ⟨t, rfl⟩
    · exact Below.refl _ _
    · exact below_bytesWorld _ _ _⟩
end Go.Proofs.YtjpigaobeegbgaaGreatDoor
