/- Joined texts: Txt, Base, StrTab, RootPlain, NormPlain, RatTxt, CutTxt, IntTxt, MarkTxt, SurdTxt, WPri, WGlo3, WFrame3, Limb, WNat, WNatOf. -/
import Derived.Lib.ItoaNum
import Derived.Lib.Strings
import Derived.Test.YthihcjgmlbnapaaGreatDoorProg
import Derived.Test.YthihcjgmlbnapaaGreatDoorShelf
import Derived.WalkKit
import Derived.WalkSpells
import Derived.WalkLawsBesides
import Derived.WalkSmall
import Derived.Deep.QuietTactic
import Derived.BigQuiet
import Derived.Outline
import Derived.Deep.DeepCutAuto
import Derived.Deep.CutBlock
import Derived.Lib.Hide
import Derived.Lib.ItoaLen
import Derived.Shelf.Strings.SlTrimAscii
import Derived.Lib.LaidTab
import Derived.Lib.IndexMore
import Derived.Lib.AtoiAll
import Derived.Lib.SlTrimSet
import Derived.Test.YthihcjgmlbnapaaGreatDoorRows
import Derived.ProofKit
import Derived.Shelf.Vars
import Derived.ReadAgain
import Derived.ChangeStays
import Derived.OpenShut
import Derived.Deep.DeepHandedRow
set_option maxRecDepth 100000
set_option linter.unusedVariables false
set_option linter.unusedSimpArgs false
set_option maxHeartbeats 12800000
namespace Go.Proofs.YthihcjgmlbnapaaGreatDoor
def isDig (c : UInt8) : Bool := decide (48 ≤ c.toNat) && decide (c.toNat ≤ 57)
def nDig (l : List UInt8) : Nat := (l.takeWhile isDig).length
def dval (l : List UInt8) : Nat := l.foldl (fun a c => 10 * a + (c.toNat - 48)) 0
theorem dval_snoc (l : List UInt8) (c : UInt8) : dval (l ++ [c]) = 10 * dval l + (c.toNat - 48) := by simp [dval]
theorem nDig_le (l : List UInt8) : nDig l ≤ l.length := (List.takeWhile_sublist isDig).length_le
theorem takeWhile_all (l : List UInt8) : ∀ x ∈ l.takeWhile isDig, isDig x = true := by
 induction l with
 | nil => simp
 | cons c r ih =>
  intro x hx
  by_cases hc : isDig c = true
  ·simp [hc] at hx
   rcases hx with rfl | hx
   ·exact hc
   ·exact ih x hx
  ·simp [hc] at hx
theorem isDig_of_lt (l : List UInt8) (k : Nat) (h : k < nDig l) (hk : k < l.length) : isDig l[k] = true := by
 have h1 : ∀ x ∈ l.takeWhile isDig, isDig x = true := takeWhile_all l
 have h2 : l[k] = (l.takeWhile isDig)[k]'h := by
  have := List.takeWhile_prefix isDig (l := l)
  exact (this.getElem h).symm
 rw [h2]; exact h1 _ (List.getElem_mem h)
theorem not_isDig_at (l : List UInt8) (hk : nDig l < l.length) : isDig l[nDig l] = false := by
 induction l with
 | nil => simp at hk
 | cons c r ih =>
  by_cases hc : isDig c = true
  ·have e : nDig (c :: r) = nDig r + 1 := by simp [nDig, hc]
   simp only [e, List.getElem_cons_succ]
   exact ih (by simp [e] at hk; exact hk)
  ·have e : nDig (c :: r) = 0 := by simp [nDig, hc]
   simp only [e, List.getElem_cons_zero]; simpa using hc
theorem isDig_iff (c : UInt8) : isDig c = true ↔ 48 ≤ c.toNat ∧ c.toNat ≤ 57 := by simp [isDig]
theorem dval_take_lt (l : List UInt8) : ∀ k, k ≤ nDig l → dval (l.take k) < 10 ^ k
 | 0, _ => by simp [dval]
 | k + 1, h => by
  have hl : k < l.length := Nat.lt_of_lt_of_le h (nDig_le l)
  have ih := dval_take_lt l k (by omega)
  have hd := (isDig_iff _).1 (isDig_of_lt l k h hl)
  rw [List.take_succ_eq_append_getElem hl, dval_snoc, Nat.pow_succ]
  omega
def natInt (l : List UInt8) : Option (Nat × List UInt8) :=
 if nDig l = 0 ∨ 8 < nDig l ∨ (1 < nDig l ∧ l.head? = some 48) then none else some (dval (l.take (nDig l)), l.drop (nDig l))
def natOf (l : List UInt8) : Option (Int × Nat) :=
 match natInt (if l.head? = some 45 then l.tail else l) with
 | none => none
 | some (n, rest) =>
  if l.head? = some 45 ∧ n = 0 then none else
  if rest = [] then some (if l.head? = some 45 then -(n : Int) else n, 1) else
  if rest.head? ≠ some 47 then none else
  match natInt rest.tail with
  | none => none
  | some (d, r) => if r ≠ [] ∨ d < 2 ∨ Nat.gcd n d ≠ 1 then none else some (if l.head? = some 45 then -(n : Int) else n, d)
theorem natOf_own {l own : List UInt8} (h : own = if l.head? = some 45 then l.tail else l) : natOf l = match natInt own with
 | none => none
 | some (n, rest) =>
  if l.head? = some 45 ∧ n = 0 then none else
  if rest = [] then some (if l.head? = some 45 then -(n : Int) else n, 1) else
  if rest.head? ≠ some 47 then none else
  match natInt rest.tail with
  | none => none
  | some (d, r) => if r ≠ [] ∨ d < 2 ∨ Nat.gcd n d ≠ 1 then none else some (if l.head? = some 45 then -(n : Int) else n, d) := by
 subst h; rfl
end Go.Proofs.YthihcjgmlbnapaaGreatDoor
namespace Go.Proofs.YthihcjgmlbnapaaGreatDoor
open Go.RowKit
def RetQ (v : Value) (w : World) (e : Ending) (w' : World) : Prop := e = .returned v ∧ ∃ n, w' = w.drewN n
def RetB (v : Value) (w : World) (e : Ending) (w' : World) : Prop := e = .returned v ∧ Below w.heap.size w w'
def RetS (l : List UInt8) (w : World) (e : Ending) (w' : World) : Prop := ∃ s : ByteArray, s.data.toList = l ∧ e = .returned (.string s) ∧ Below w.heap.size w w'
theorem drewN_add (w : World) (a b : Nat) : (w.drewN a).drewN b = w.drewN (a + b) := by simp [World.drewN, Nat.add_assoc]
theorem below_drewN {B : Nat} {a w : World} (h : Below B a w) (n : Nat) : Below B a (w.drewN n) := ⟨h.os, h.tape, h.output, h.size, h.block⟩
theorem below_grow {B : Nat} {a w : World} (h : Below B a w) (hB : B ≤ w.heap.size) (os : Array Obj) : Below B a (Go.Sort.grow w os) :=
 h.trans ⟨rfl, rfl, rfl, by simp [Go.Sort.grow], fun k hk => Go.Sort.heap_grow_old _ _ (by omega)⟩
theorem below_alloc {w X : World} (h : Below w.heap.size w X) (o : Obj) : Below w.heap.size w (X.alloc o) := h.alloc h.size o
theorem below_trans' {w X Y : World} (h : Below w.heap.size w X) (k : Below X.heap.size X Y) : Below w.heap.size w Y := h.trans (k.mono h.size)
theorem below_trans'' {w X Y : World} (k : Below X.heap.size X Y) (h : Below w.heap.size w X) : Below w.heap.size w Y := below_trans' h k
theorem bw0 (B : Nat) (w : World) : Below B w w := Below.refl B w
theorem bw1 {B : Nat} {a w : World} (h : Below B a w) {p : Addr} (hp : B ≤ p.block) (u : Value) : Below B a (w.setCell p u) := Below.setCell h hp u
theorem bw2 {B : Nat} {a w : World} (h : Below B a w) (n : Nat) : Below B a (w.drewN n) := below_drewN h n
theorem bw3 {B : Nat} {a w : World} (h : Below B a w) : Below B a w.drew := Below.drew h
theorem bw4 {w X : World} (h : Below w.heap.size w X) (o : Obj) : Below w.heap.size w (X.alloc o) := below_alloc h o
theorem bw5 {w X Y : World} (k : Below X.heap.size X Y) (h : Below w.heap.size w X) : Below w.heap.size w Y := below_trans'' k h
theorem bw7 {α : Type _} (l : List α) (i : Nat) (a : α) : l.toArray.setIfInBounds i a = (l.set i a).toArray := List.setIfInBounds_toArray l i a
theorem bw8 {α : Type _} {x : α} {xs : List α} {a : α} : (x :: xs).set 0 a = a :: xs := List.set_cons_zero
theorem bw9 {α : Type _} {x : α} {xs : List α} {i : Nat} {a : α} : (x :: xs).set (i + 1) a = x :: xs.set i a := List.set_cons_succ
theorem qbl {p : Prop} (h : p := by repeat (first | (with_reducible first | exact Below.refl _ _ | refine Below.setCell ?_ ?_ _ | refine below_drewN ?_ _ | refine Below.drew ?_ | refine below_alloc ?_ _ | refine below_trans'' (by assumption) ?_) | exact Nat.le_refl _ | (focus (simp; done)) | (focus (simp; omega)) | omega)) : p := h
theorem ret_i64 {a b:Int} (h:a=b):Value.int .i64 a=.int .i64 b:=by rw [h]
theorem RetQ.b {v:Value} {w:World} {e:Ending} {w':World} (h:RetQ v w e w'):RetB v w e w':=by
 obtain ⟨h1,n,rfl⟩:=h
 exact ⟨h1,bw2 (bw0 _ _) _⟩
theorem bcell {W w1:World} (hb:Below W.heap.size W w1):(∀ b o,b < W.heap.size→w1.cell? ⟨b,o,none⟩=W.cell? ⟨b,o,none⟩)∧(∀ b o,b < W.heap.size→w1.frozen? ⟨b,o,none⟩=W.frozen? ⟨b,o,none⟩) :=
 ⟨fun b o h=>hb.cell (p:=⟨b,o,none⟩) h,fun b o h=>hb.frozen (p:=⟨b,o,none⟩) h⟩
theorem lt_of_cell {w:World} {b o:Nat} {v:Value} (h:w.cell? ⟨b,o,none⟩=some v):b < w.heap.size:=by
 by_cases hb:b < w.heap.size
 ·exact hb
 ·simp [World.cell?,Array.getElem?_eq_none (Nat.not_lt.1 hb)] at h
theorem keep {W W':World} {b o:Nat} {v:Value} (hB:Below W.heap.size W W') (h:W.cell? ⟨b,o,none⟩=some v):W'.cell? ⟨b,o,none⟩=some v:=(hB.cell (p:=⟨b,o,none⟩) (lt_of_cell h)).trans h
theorem keepf {W W':World} {b o:Nat} {v:Value} (hB:Below W.heap.size W W') (h:W.cell? ⟨b,o,none⟩=some v) {c:Bool} (hf:W.frozen? ⟨b,o,none⟩=c):W'.frozen? ⟨b,o,none⟩=c:=(hB.frozen (p:=⟨b,o,none⟩) (lt_of_cell h)).trans hf
theorem extract_drop (s:ByteArray) (k:Nat):s.extract k s.size=⟨(s.data.toList.drop k).toArray⟩:=by
 apply ByteArray.ext
 apply Array.toList_inj.1
 rw [ByteArray.data_extract,Array.toList_extract]
 simp
 rw [List.take_of_length_le];simp
theorem headqc {c:UInt8} {s:ByteArray} (h0:0 < s.size) (h:((s[0].toNat:Int) == (c.toNat:Int))=true):s.data.toList.head?=some c:=by
 have h1:s[0].toNat=c.toNat:=by have:=eq_of_beq h;omega
 have h2:s[0]=c:=UInt8.toNat_inj.1 h1
 rw [List.head?_eq_getElem?,List.getElem?_eq_getElem (by exact h0)]
 exact congrArg some h2
theorem headqc' {c:UInt8} {s:ByteArray} (h0:0 < s.size) (h:s.data.toList.head?=some c):((s[0].toNat:Int) == (c.toNat:Int))=true:=by
 rw [List.head?_eq_getElem?,List.getElem?_eq_getElem (by exact h0)] at h
 have h2:s[0]=c:=Option.some.inj h
 rw [h2];simp
theorem headq {s:ByteArray} (h0:0 < s.size) (h:((s[0].toNat:Int) == 48)=true):s.data.toList.head?=some 48:=headqc (c:=48) h0 h
theorem headq' {s:ByteArray} (h0:0 < s.size) (h:s.data.toList.head?=some 48):((s[0].toNat:Int) == 48)=true:=headqc' (c:=48) h0 h
theorem headq45 {s:ByteArray} (h0:0 < s.size) (h:((s[0].toNat:Int) == 45)=true):s.data.toList.head?=some 45:=headqc (c:=45) h0 h
theorem headq45' {s:ByteArray} (h0:0 < s.size) (h:s.data.toList.head?=some 45):((s[0].toNat:Int) == 45)=true:=headqc' (c:=45) h0 h
theorem toList_nil {s:ByteArray} (h:s.size=0):s.toList=[]:=by
 rw [Lib.toList_data,← List.length_eq_zero_iff];exact h
theorem toList_ne {s:ByteArray} (h:¬ s.size=0):¬ s.toList=[]:=by
 rw [Lib.toList_data,← List.length_eq_zero_iff];exact h
theorem toList_isEmpty {s:ByteArray} (h:¬ s.size=0):s.toList.isEmpty=false:=by
 have:=toList_ne h
 cases hs:s.toList with
 | nil=>exact absurd hs this
 | cons a l=>rfl
theorem data_nil {s:ByteArray} (h:s.size=0):s.data.toList=[]:=by
 rw [← List.length_eq_zero_iff];exact h
def Glo (w : World) : Prop := Lib.TabIs Tryz.prog w "internal/strconv.uint64pow10" .u64 Lib.pow10Tab ∧ (∃ m, w.cell? ⟨6, 0, none⟩ = some (.int .i64 m)) ∧ 12 ≤ w.heap.size
theorem Glo.below {w w':World} (h:Glo w) (hb:Below w.heap.size w w'):Glo w':=by
 obtain ⟨h1,⟨m,h2⟩,h3⟩:=h
 refine ⟨?_,⟨m,(hb.cell (p:=⟨6,0,none⟩) (show 6 < _ by omega)).trans h2⟩,Nat.le_trans h3 hb.size⟩
 exact var?_below (g:=5) hb (by kernel_rfl) (by omega) h1
theorem keep3 {w W W':World} {b0 o0 b1 o1 b2 o2:Nat} {v0 v1 v2:Value} (h:World.cell? W ⟨b0,o0,none⟩=some v0∧World.cell? W ⟨b1,o1,none⟩=some v1∧World.cell? W ⟨b2,o2,none⟩=some v2∧Below w.heap.size w W) (hB:Below W.heap.size W W'):World.cell? W' ⟨b0,o0,none⟩=some v0∧World.cell? W' ⟨b1,o1,none⟩=some v1∧World.cell? W' ⟨b2,o2,none⟩=some v2∧Below w.heap.size w W':=⟨keep hB h.1,keep hB h.2.1,keep hB h.2.2.1,below_trans' h.2.2.2 hB⟩
theorem glo3 {w W:World} {b0 o0 b1 o1 b2 o2:Nat} {v0 v1 v2:Value} (hG:Glo w) (h:World.cell? W ⟨b0,o0,none⟩=some v0∧World.cell? W ⟨b1,o1,none⟩=some v1∧World.cell? W ⟨b2,o2,none⟩=some v2∧Below w.heap.size w W):Glo W:=hG.below h.2.2.2
theorem keep4 {w W W':World} {b0 o0 b1 o1 b2 o2 b3 o3:Nat} {v0 v1 v2 v3:Value} (h:World.cell? W ⟨b0,o0,none⟩=some v0∧World.cell? W ⟨b1,o1,none⟩=some v1∧World.cell? W ⟨b2,o2,none⟩=some v2∧World.cell? W ⟨b3,o3,none⟩=some v3∧Below w.heap.size w W) (hB:Below W.heap.size W W'):World.cell? W' ⟨b0,o0,none⟩=some v0∧World.cell? W' ⟨b1,o1,none⟩=some v1∧World.cell? W' ⟨b2,o2,none⟩=some v2∧World.cell? W' ⟨b3,o3,none⟩=some v3∧Below w.heap.size w W':=⟨keep hB h.1,keep hB h.2.1,keep hB h.2.2.1,keep hB h.2.2.2.1,below_trans' h.2.2.2.2 hB⟩
theorem glo4 {w W:World} {b0 o0 b1 o1 b2 o2 b3 o3:Nat} {v0 v1 v2 v3:Value} (hG:Glo w) (h:World.cell? W ⟨b0,o0,none⟩=some v0∧World.cell? W ⟨b1,o1,none⟩=some v1∧World.cell? W ⟨b2,o2,none⟩=some v2∧World.cell? W ⟨b3,o3,none⟩=some v3∧Below w.heap.size w W):Glo W:=hG.below h.2.2.2.2
theorem itoa_any (n:Int) (h0 : -9223372036854775808≤n) (h1:n≤9223372036854775807) (w:World) (hG:Glo w) :
  Calls Tryz.prog 68 #[.int .i64 n] w (RetS (Lib.itoa n) w) :=
 (Tryz.strconv_Itoa n h0 h1 w hG.1).mono fun e w' ⟨he,k,os,hw⟩=>⟨_,by simp,he,by rw [hw];exact below_grow (bw2 (bw0 _ _) _) (Nat.le_refl _) _⟩
theorem below_bytesWorld (w:World) (e:TypeId) (t:ByteArray):Below w.heap.size w (Lib.bytesWorld w e t):=by
 unfold Lib.bytesWorld
 have h1:Below w.heap.size w (w.drew.alloc (.cells (Lib.bytesCells w e t) e)):=bw4 (bw0 _ _).drew _
 refine h1.trans ?_
 unfold World.freeze
 rw [if_neg (by omega)]
 refine ⟨rfl,rfl,rfl,by simp,fun k hk=>?_⟩
 simp only [Array.getElem?_modify]
 rw [if_neg (by omega)]
theorem cut_any (s sep:ByteArray) (w:World) (hG:Glo w) (hs:s.size < 4294967281) {a b:List UInt8} {c:Bool} (h:Lib.cut s.data.toList sep.data.toList=(a,b,c)) :
  Calls Tryz.prog 154 #[.string s,.string sep] w fun e w'=>∃ a' b':ByteArray,Hid (a'.data.toList=a)∧Hid (b'.data.toList=b)∧e=.returned (.tuple #[.string a',.string b',.bool c])∧∃ n,w'=w.drewN n:=by
 obtain ⟨m,hm⟩:=hG.2.1
 have:=Tryz.strings_Cut s sep m w hs hm
 rw [h] at this
 exact this.mono fun e w' ⟨h1,h2⟩=>⟨⟨a.toArray⟩,⟨b.toArray⟩,Lib.hid (by simp),Lib.hid (by simp),h1,h2⟩
theorem cutPrefix_any (s p:ByteArray) (w:World) {a:List UInt8} {c:Bool} (h:Lib.trimPrefix s.data.toList p.data.toList=a) (hc:Lib.hasPrefix s.data.toList p.data.toList=c) :
  Calls Tryz.prog 155 #[.string s,.string p] w fun e w'=>∃ a':ByteArray,Hid (a'.data.toList=a)∧e=.returned (.tuple #[.string a',.bool c])∧w=w':=by
 subst h;subst hc
 exact (Tryz.strings_CutPrefix s p w).mono fun e w' ⟨h1,h2⟩=>⟨_,Lib.hid (by simp),h1,h2.symm⟩
theorem trimPrefix_any (s p:ByteArray) (w:World) {a:List UInt8} (h:Lib.trimPrefix s.data.toList p.data.toList=a) :
  Calls Tryz.prog 92 #[.string s,.string p] w fun e w'=>∃ a':ByteArray,Hid (a'.data.toList=a)∧e=.returned (.string a')∧w=w':=by
 subst h
 exact (Tryz.strings_TrimPrefix s p w).mono fun e w' ⟨h1,h2⟩=>⟨_,Lib.hid (by simp),h1,h2.symm⟩
theorem trimDigits_any (s:ByteArray) (w:World) (hs:s.size≤9223372036854775807) {l:List UInt8} (h:Lib.trimS s.data.toList [48,49,50,51,52,53,54,55,56,57]=l) :
  Calls Tryz.prog 197 #[.string s,.string ⟨#[48,49,50,51,52,53,54,55,56,57]⟩] w fun e w'=>∃ a':ByteArray,Hid (a'.data.toList=l)∧e=.returned (.string a')∧Below w.heap.size w w':=by
 subst h
 exact (Any.strings_Trim_laid Tryz.lays160 (by kernel_rfl) s ⟨#[48,49,50,51,52,53,54,55,56,57]⟩ w hs (by decide) (ascii_of_all (by decide))).mono fun e w' ⟨h1,h2⟩=>⟨_,Lib.hid (by simp),h1,h2⟩
theorem atoi_any (s:ByteArray) (w:World) (hs:s.size≤1000) {v:Int} (h:Lib.atoiAll s.data.toList=.ok v) :
  Calls Tryz.prog 82 #[.string s] w (RetB (.tuple #[.int .i64 v,.nilIface]) w) :=
 (Tryz.strconv_Atoi_ok s (by omega) v h w).mono fun e w' ⟨h1,h2⟩=>⟨h1,by
  rcases h2 with rfl|⟨t,rfl⟩
  ·exact bw0 _ _
  ·exact below_bytesWorld _ _ _⟩
end Go.Proofs.YthihcjgmlbnapaaGreatDoor
namespace Go.Proofs.YthihcjgmlbnapaaGreatDoor
open Go
def strData {H:Type} (ss:List (List UInt8)):DataW H:=.agg (ss.map fun s=>.lit (.string s))
def strVal (s:List UInt8):Value:=.string ⟨s.toArray⟩
def StrTab (P:Program) (w:World) (name:String) (ss:List (List UInt8)):Prop:=w.var? P name=some (ss.map strVal).toArray
theorem scells_of_tab {H:Type} {enc:TypeId × Value→H} {P:Program} {w:World} {base:Nat} {sp:Nat→Bool} {held:Bool} {fuel:Nat} {t e:TypeId} {n:Nat} {cs:List Value} {ss:List (List UInt8)} {p:List MemPlace}
  (ht:P.underlying t=some (.array n e)) (he:P.underlying e=some .string) (hce:P.cellsOf e=1) (hct:P.cellsOf t=n)
  (h:DataW.trod enc P w base sp held fuel t cs=some (strData ss,p)):cs=ss.map strVal:=by
 cases fuel with
 | zero=>simp [DataW.trod] at h
 | succ fuel =>
  simp only [DataW.trod,ht,hce,hct,Nat.mul_one] at h
  split at h
  ·rename_i hl
   obtain ⟨xs,hm,hx⟩:=Option.map_eq_some_iff.1 h
   have hxs:xs.map (·.1)=ss.map fun s=>(DataW.lit (.string s):DataW H):=by
    have:=congrArg Prod.fst hx
    simpa [strData] using this
   have hxl:xs.length=n:=by simpa using Lib.mapM_length hm
   have hzl:ss.length=n:=by
    have:=congrArg List.length hxs
    simp at this
    omega
   have hcl:cs.length=n:=by
    omega
   apply List.ext_getElem?
   intro i
   by_cases hi:i < n
   ·obtain ⟨b,hb,hf⟩:=Lib.mapM_at hm i i (by simp [hi])
    obtain ⟨z,hc,rfl,_⟩:=DataW.trod_string he hf
    have h1:cs[i]?=some (.string z):=by
     have:=congrArg (·[0]?) hc
     simpa [List.getElem?_take,List.getElem?_drop] using this
    have h2:(xs.map (·.1))[i]?=some (DataW.lit (.string z.data.toList):DataW H):=by simp [hb]
    rw [hxs] at h2
    simp only [List.getElem?_map,Option.map_eq_some_iff,DataW.lit.injEq,Lit.string.injEq] at h2
    obtain ⟨z',hz',hz⟩:=h2
    rw [h1,List.getElem?_map,hz',hz]
    rfl
   ·rw [List.getElem?_eq_none (by omega),List.getElem?_eq_none (by simp;omega)]
  ·cases h
theorem strTab_of_head {P:Program} {W:World} {name:String} {ss:List (List UInt8)} {rest:List (String × DataW Unit)} {g:Nat} {t e:TypeId} {n:Nat}
  (hg:P.globalNamed name=some g) (hty:(P.globals[g]?).map (·.type)=some t) (ht:P.underlying t=some (.array n e)) (he:P.underlying e=some .string) (hce:P.cellsOf e=1) (hct:P.cellsOf t=n)
  (h:laidMet P ((name,strData ss)::rest) W):StrTab P W name ss:=by
 obtain ⟨ps,⟨g',t',cs,fuel,p,q,hg',ht',hvar,hd,_,_⟩,_⟩:=h
 obtain rfl:=Option.some.inj (hg.symm.trans hg')
 obtain rfl:=Option.some.inj (hty.symm.trans ht')
 unfold StrTab
 rw [hvar,← scells_of_tab ht he hce hct hd]
theorem StrTab.cell {P:Program} {W:World} {name:String} {ss:List (List UInt8)} {g:Nat} (h:StrTab P W name ss) (hg:P.globalNamed name=some g) (i:Nat) (hi:i < ss.length) :
  W.cell? ⟨g,i,none⟩=some (strVal (ss.getD i [])):=by
 have:=World.var?_cell hg h i
 simpa [List.getD,hi] using this
end Go.Proofs.YthihcjgmlbnapaaGreatDoor
namespace Go.Proofs.YthihcjgmlbnapaaGreatDoor
def rootN:Nat→Nat
 | 0=>0
 | n+1=>if (rootN n+1) * (rootN n+1)≤n+1 then rootN n+1 else rootN n
theorem rootN_spec (n:Nat):rootN n * rootN n≤n∧n < (rootN n+1) * (rootN n+1):=by
 induction n with
 | zero=>simp [rootN]
 | succ n ih =>
  unfold rootN
  split
  ·rename_i h
   refine ⟨h,?_⟩
   generalize rootN n=r at *
   have:=ih.2
   grind
  ·rename_i h
   exact ⟨by omega,by omega⟩
theorem sq_lt {a b:Nat} (h:a * a < b * b):a < b:=by
 rcases Nat.lt_or_ge a b with h1|h1
 ·exact h1
 ·have:=Nat.mul_le_mul h1 h1;omega
theorem rootN_uniq {n r:Nat} (h1:r * r≤n) (h2:n < (r+1) * (r+1)):rootN n=r:=by
 obtain ⟨k1,k2⟩:=rootN_spec n
 have a1:=sq_lt (Nat.lt_of_le_of_lt h1 k2)
 have a2:=sq_lt (Nat.lt_of_le_of_lt k1 h2)
 omega
theorem rootN_le {n x:Nat} (h:n < (x+1) * (x+1)):rootN n≤x:=by
 have:=sq_lt (Nat.lt_of_le_of_lt (rootN_spec n).1 h)
 omega
theorem le_rootN {n x:Nat} (h:x * x≤n):x≤rootN n:=by
 have:=sq_lt (Nat.lt_of_le_of_lt h (rootN_spec n).2)
 omega
theorem newton_ge (n:Nat) {x:Nat} (hx:0 < x):rootN n≤(x+n / x) / 2:=by
 obtain ⟨k1,_⟩:=rootN_spec n
 generalize rootN n=r at *
 rcases Nat.lt_or_ge ((x+n / x) / 2) r with h|h
 ·exfalso
  have h2:n < (n / x+1) * x:=by
   have:=Nat.div_add_mod n x
   have:=Nat.mod_lt n hx
   grind
  generalize n / x=q at *
  have h1:x+q < 2 * r:=by omega
  have h3:q+1≤2 * r - x:=by omega
  have h4:(q+1) * x≤(2 * r - x) * x:=Nat.mul_le_mul_right _ h3
  have h5:(2 * r - x) * x≤r * r:=by
   obtain ⟨y,hy⟩:∃ y,2 * r=y+x:=⟨2 * r - x,by omega⟩
   rw [show 2 * r - x=y by omega]
   rcases Nat.le_total x y with h6|h6
   ·obtain ⟨d,rfl⟩:∃ d,y=x+d:=⟨y - x,by omega⟩
    obtain ⟨e,rfl⟩:∃ e,d=2 * e:=⟨r - x,by omega⟩
    obtain rfl:r=x+e:=by omega
    grind
   ·obtain ⟨d,rfl⟩:∃ d,x=y+d:=⟨x - y,by omega⟩
    obtain ⟨e,rfl⟩:∃ e,d=2 * e:=⟨r - y,by omega⟩
    obtain rfl:r=y+e:=by omega
    grind
  omega
 ·exact h
theorem newton_lt {n x:Nat} (h:rootN n < x):(x+n / x) / 2 < x:=by
 have h1:n < x * x:=by
  have h2:=(rootN_spec n).2
  have h3:(rootN n+1) * (rootN n+1)≤x * x:=Nat.mul_le_mul h h
  omega
 have h2:n / x < x:=Nat.div_lt_of_lt_mul h1
 omega
theorem newton_eq {n x:Nat} (h:rootN n≤x) (hn:x≤(x+n / x) / 2):rootN n=x:=by
 rcases Nat.lt_or_ge (rootN n) x with h1|h1
 ·have:=newton_lt h1;omega
 ·omega
theorem rootN_half {n x:Nat} (hx:0 < x) (h:n / x≤x):rootN n≤x:=by
 refine rootN_le ?_
 have h1:=Nat.div_add_mod n x
 have h2:=Nat.mod_lt n hx
 have h3:x * (n / x)≤x * x:=Nat.mul_le_mul_left _ h
 grind
theorem rootN_sq (r:Nat):rootN (r * r)=r:=rootN_uniq (Nat.le_refl _) (by grind)
theorem rootN_pow {n k:Nat} (h:n < 10 ^ (2 * k)):rootN n≤10 ^ k:=by
 refine rootN_le (Nat.lt_of_lt_of_le h ?_)
 rw [show 2 * k=k+k by omega,Nat.pow_add]
 exact Nat.mul_le_mul (by omega) (by omega)
end Go.Proofs.YthihcjgmlbnapaaGreatDoor
namespace Go.Proofs.YthihcjgmlbnapaaGreatDoor
def strip (p:Nat):Nat→Nat→Nat→Nat × Nat
 | 0,c,m=>(c,m)
 | f+1,c,m=>if m % (p * p)=0 then strip p f (c * p) (m / (p * p)) else (c,m)
theorem div_lt_sq {p m:Nat} (hp:2≤p) (hm:0 < m):m / (p * p) < m:=Nat.div_lt_self hm (Nat.lt_of_lt_of_le (by decide:1 < 2 * 2) (Nat.mul_le_mul hp hp))
theorem div_pos_sq {p m:Nat} (hp:2≤p) (hm:0 < m) (h:m % (p * p)=0):0 < m / (p * p):=by
 have:=Nat.div_add_mod m (p * p)
 rw [h] at this
 rcases Nat.eq_zero_or_pos (m / (p * p)) with h0|h0
 ·rw [h0] at this;simp at this;omega
 ·exact h0
theorem strip_fuel {p:Nat} (hp:2≤p):∀ {f g c m:Nat},0 < m→m≤f→m≤g→strip p f c m=strip p g c m:=by
 intro f
 induction f with
 | zero=>intro g c m h0 h1;omega
 | succ f ih =>
  intro g c m h0 h1 h2
  cases g with
  | zero=>omega
  | succ g =>
   unfold strip
   split
   ·rename_i h
    have:=div_lt_sq hp h0
    exact ih (div_pos_sq hp h0 h) (by omega) (by omega)
   ·rfl
def stripped (p c m:Nat):Nat × Nat:=strip p m c m
theorem stripped_go {p c m:Nat} (hp:2≤p) (hm:0 < m) (h:m % (p * p)=0):stripped p c m=stripped p (c * p) (m / (p * p)):=by
 unfold stripped
 obtain ⟨k,rfl⟩:∃ k,m=k+1:=⟨m - 1,by omega⟩
 rw [strip,if_pos h]
 have:=div_lt_sq hp hm
 exact strip_fuel hp (div_pos_sq hp hm h) (by omega) (Nat.le_refl _)
theorem stripped_end {p c m:Nat} (hm:0 < m) (h:¬ m % (p * p)=0):stripped p c m=(c,m):=by
 unfold stripped
 obtain ⟨k,rfl⟩:∃ k,m=k+1:=⟨m - 1,by omega⟩
 rw [strip,if_neg h]
theorem strip_inv {p:Nat} (hp:2≤p):∀ {f c m:Nat},0 < m→0 < c→(strip p f c m).1 * (strip p f c m).1 * (strip p f c m).2=c * c * m∧0 < (strip p f c m).1∧0 < (strip p f c m).2∧(strip p f c m).2≤m:=by
 intro f
 induction f with
 | zero=>intro c m h0 h1;exact ⟨rfl,h1,h0,Nat.le_refl _⟩
 | succ f ih =>
  intro c m h0 h1
  unfold strip
  split
  ·rename_i h
   obtain ⟨i1,i2,i3,i4⟩:=ih (c:=c * p) (div_pos_sq hp h0 h) (Nat.mul_pos h1 (by omega))
   refine ⟨?_,i2,i3,Nat.le_trans i4 (Nat.le_of_lt (div_lt_sq hp h0))⟩
   rw [i1]
   have:=Nat.div_add_mod m (p * p)
   rw [h,Nat.add_zero] at this
   generalize m / (p * p)=q at *
   rw [← this]
   simp [Nat.mul_assoc,Nat.mul_comm,Nat.mul_left_comm]
  ·exact ⟨rfl,h1,h0,Nat.le_refl _⟩
theorem stripped_inv {p c m:Nat} (hp:2≤p) (hm:0 < m) (hc:0 < c):(stripped p c m).1 * (stripped p c m).1 * (stripped p c m).2=c * c * m∧0 < (stripped p c m).1∧0 < (stripped p c m).2∧(stripped p c m).2≤m:=strip_inv hp hm hc
def norms:List Nat→Nat→Nat→Nat × Nat
 | [],c,m=>(c,m)
 | p::ps,c,m=>norms ps (stripped p c m).1 (stripped p c m).2
theorem norms_inv:∀ {ps:List Nat} {c m:Nat},(∀ p ∈ ps,2≤p)→0 < m→0 < c→(norms ps c m).1 * (norms ps c m).1 * (norms ps c m).2=c * c * m∧0 < (norms ps c m).1∧0 < (norms ps c m).2∧(norms ps c m).2≤m:=by
 intro ps
 induction ps with
 | nil=>intro c m _ hm hc;exact ⟨rfl,hc,hm,Nat.le_refl _⟩
 | cons p ps ih =>
  intro c m hp hm hc
  obtain ⟨s1,s2,s3,s4⟩:=stripped_inv (hp p (by simp)) hm hc
  obtain ⟨i1,i2,i3,i4⟩:=ih (fun q hq=>hp q (by simp [hq])) s3 s2
  exact ⟨by rw [norms,i1,s1],i2,i3,Nat.le_trans i4 s4⟩
def primes25:List Nat:=[2,3,5,7,11,13,17,19,23,29,31,37,41,43,47,53,59,61,67,71,73,79,83,89,97]
theorem primes25_two:∀ p ∈ primes25,2≤p:=by decide
def squared (r:Nat × Nat):Nat × Nat:=if rootN r.2 * rootN r.2=r.2 then (r.1 * rootN r.2,1) else r
def normalN (m:Nat):Nat × Nat:=squared (norms primes25 1 m)
theorem normalN_inv {m:Nat} (hm:0 < m):(normalN m).1 * (normalN m).1 * (normalN m).2=m∧0 < (normalN m).1∧0 < (normalN m).2∧(normalN m).2≤m:=by
 obtain ⟨i1,i2,i3,i4⟩:=norms_inv (c:=1) primes25_two hm (by decide)
 unfold normalN squared
 generalize norms primes25 1 m=r at *
 split
 ·rename_i h
  have h0:0 < rootN r.2:=by
   rcases Nat.eq_zero_or_pos (rootN r.2) with h0|h0
   ·rw [h0] at h;omega
   ·exact h0
  refine ⟨?_,Nat.mul_pos i2 h0,Nat.one_pos,hm⟩
  simp only [Nat.mul_one]
  rw [← Nat.one_mul m,← Nat.one_mul (1 * m),← Nat.mul_assoc,← i1]
  generalize rootN r.2=x at *
  rw [← h]
  simp [Nat.mul_assoc,Nat.mul_comm,Nat.mul_left_comm]
 ·exact ⟨by rw [i1];simp,i2,i3,i4⟩
theorem sq_of_mul {c l s:Nat} (hc:0 < c) (h:c * c * l=s * s):∃ t,l=t * t∧c * t=s:=by
 have hd:c ∣ s:=by
  have h1:c * c ∣ s * s:=⟨l,h.symm⟩
  rw [← Nat.pow_two,← Nat.pow_two] at h1
  exact (Nat.pow_dvd_pow_iff (by decide)).1 h1
 obtain ⟨t,rfl⟩:=hd
 refine ⟨t,?_,rfl⟩
 have h2:c * c * l=c * c * (t * t):=by rw [h];simp [Nat.mul_assoc,Nat.mul_left_comm]
 exact Nat.eq_of_mul_eq_mul_left (Nat.mul_pos hc hc) h2
theorem normalN_sq {m s:Nat} (hm:0 < m) (h:m=s * s):normalN m=(s,1):=by
 obtain ⟨i1,i2,i3,i4⟩:=norms_inv (c:=1) primes25_two hm (by decide)
 unfold normalN squared
 generalize norms primes25 1 m=r at *
 simp only [Nat.one_mul] at i1
 obtain ⟨t,h1,h2⟩:=sq_of_mul i2 (i1.trans h)
 rw [h1,rootN_sq,if_pos rfl,h2]
end Go.Proofs.YthihcjgmlbnapaaGreatDoor
namespace Go.Proofs.YthihcjgmlbnapaaGreatDoor
open Go
theorem decDigits_isDig (n:Nat):∀ c ∈ Lib.decDigits n,isDig c=true:=by
 induction n using Nat.strongRecOn with
 | _ n ih =>
  intro c hc
  have key:∀ k,k < 10→isDig (UInt8.ofNat (48+k))=true:=by decide
  rw [Lib.decDigits] at hc
  split at hc
  ·rename_i hn;rw [List.mem_singleton] at hc;subst hc;exact key _ hn
  ·rename_i hn;rw [List.mem_append] at hc
   rcases hc with hc|hc
   ·exact ih _ (by omega) c hc
   ·rw [List.mem_singleton] at hc;subst hc;exact key _ (Nat.mod_lt _ (by omega))
theorem decDigits_ne (n:Nat):Lib.decDigits n≠[]:=by
 rw [Lib.decDigits];split<;>simp
theorem dval_decDigits (n:Nat):dval (Lib.decDigits n)=n:=by
 induction n using Nat.strongRecOn with
 | _ n ih =>
  have key:∀ k,k < 10→(UInt8.ofNat (48+k)).toNat - 48=k:=by decide
  rw [Lib.decDigits]
  split
  ·rename_i h;have:=key n h;simp only [dval,List.foldl_cons,List.foldl_nil];omega
  ·rw [dval_snoc,ih _ (by omega),key _ (Nat.mod_lt _ (by omega))];omega
theorem nDig_append {l r:List UInt8} (hl:∀ c ∈ l,isDig c=true) (hr:r=[]∨∃ c t,r=c::t∧isDig c=false):nDig (l++r)=l.length:=by
 induction l with
 | nil =>
  rcases hr with rfl|⟨c,t,rfl,hc⟩
  ·rfl
  ·simp [nDig,hc]
 | cons a l ih =>
  have ha:=hl a (by simp)
  have:=ih (fun c hc=>hl c (by simp [hc]))
  simp only [nDig,List.cons_append,List.takeWhile_cons,ha,if_true,List.length_cons] at this ⊢
  omega
theorem nDigits_le8 {n:Nat} (h:n < 100000000):Lib.nDigits n≤8:=by
 refine Nat.le_of_not_lt fun hc=>?_
 have h1:10 ^ 8≤n:=by
  have:∀ k m,k < Lib.nDigits m→1≤k→10 ^ k≤m:=by
   intro k
   induction k with
   | zero=>intro m _ h;omega
   | succ k ih =>
    intro m hm _
    by_cases hs:m < 10
    ·rw [Lib.nDigits_small hs] at hm;omega
    ·rw [Lib.nDigits_big hs] at hm
     by_cases hk:1≤k
     ·have:=ih (m / 10) (by omega) hk
      rw [Nat.pow_succ];omega
     ·have:k=0:=by omega
      subst this;omega
  exact this 8 n hc (by omega)
 omega
theorem decDigits_head (n:Nat) (h:1 < (Lib.decDigits n).length):(Lib.decDigits n).head?≠some 48:=by
 induction n using Nat.strongRecOn with
 | _ n ih =>
  have key:∀ k,k < 10→0 < k→(UInt8.ofNat (48+k))≠48:=by decide
  rw [Lib.decDigits] at h ⊢
  split at h
  ·simp at h
  ·rename_i hn
   rw [dif_neg hn]
   by_cases h1:1 < (Lib.decDigits (n / 10)).length
   ·have:=ih (n / 10) (by omega) h1
    cases hd:Lib.decDigits (n / 10) with
    | nil=>exact absurd hd (decDigits_ne _)
    | cons a t=>rw [hd] at this;simpa using this
   ·have hs:n / 10 < 10:=by
     refine Decidable.byContradiction fun hc=>h1 ?_
     rw [Lib.decDigits,dif_neg hc]
     have:=List.length_pos_iff.2 (decDigits_ne (n / 10 / 10))
     simp;omega
    rw [Lib.decDigits,dif_pos hs]
    simpa using key _ hs (by omega)
theorem natInt_decDigits {n:Nat} {r:List UInt8} (h:n < 100000000) (hr:r=[]∨∃ c t,r=c::t∧isDig c=false):natInt (Lib.decDigits n++r)=some (n,r):=by
 have e:=nDig_append (decDigits_isDig n) hr
 have l8:(Lib.decDigits n).length≤8:=by rw [Lib.decDigits_length];exact nDigits_le8 h
 have l0:(Lib.decDigits n).length≠0:=fun h=>decDigits_ne n (List.length_eq_zero_iff.1 h)
 unfold natInt
 rw [e,if_neg]
 ·simp [dval_decDigits]
 ·rintro (h|h|⟨h1,h2⟩)
  ·exact l0 h
  ·omega
  ·have:=decDigits_head n h1
   cases hd:Lib.decDigits n with
   | nil=>exact decDigits_ne _ hd
   | cons a t=>rw [hd] at h2 this;simp at h2 this;exact this h2
def ratText (q:Rat):List UInt8:=if q.den=1 then Lib.itoa q.num else Lib.itoa q.num++47::Lib.decDigits q.den
def Small (q:Rat):Prop:=q.num.natAbs < 100000000∧q.den < 100000000
theorem itoa_cases (n:Int):(n < 0∧Lib.itoa n=45::Lib.decDigits n.natAbs)∨(0≤n∧Lib.itoa n=Lib.decDigits n.natAbs):=by
 unfold Lib.itoa
 by_cases h:n < 0
 ·exact Or.inl ⟨h,if_pos h⟩
 ·exact Or.inr ⟨by omega,by rw [if_neg h];congr 1;omega⟩
theorem decDigits_no45 (n:Nat) (r:List UInt8):(Lib.decDigits n++r).head?≠some 45:=by
 have h1:=decDigits_isDig n
 cases hd:Lib.decDigits n with
 | nil=>exact absurd hd (decDigits_ne _)
 | cons a t =>
  rw [hd] at h1
  have:=h1 a (by simp)
  intro h
  simp at h
  subst h
  revert this;decide
theorem natOf_dec {n:Int} {d:Nat} {r:List UInt8} (hn:n.natAbs < 100000000) (hr:(r=[]∧d=1)∨(r=47::Lib.decDigits d∧2≤d∧d < 100000000∧Nat.gcd n.natAbs d=1)):natOf (Lib.itoa n++r)=some (n,d):=by
 have hr':r=[]∨∃ c t,r=c::t∧isDig c=false:=by
  rcases hr with ⟨h,_⟩|⟨h,_⟩
  ·exact Or.inl h
  ·exact Or.inr ⟨_,_,h,by decide⟩
 have hi:=natInt_decDigits hn hr'
 rcases itoa_cases n with ⟨h0,h⟩|⟨h0,h⟩
 ·rw [natOf_own (own:=Lib.decDigits n.natAbs++r) (by rw [h];simp),hi]
  rcases hr with ⟨rfl,rfl⟩|⟨rfl,h2,h3,h4⟩
  ·simp [h];omega
  ·have hd:=natInt_decDigits (r:=[]) h3 (Or.inl rfl)
   rw [List.append_nil] at hd
   simp only [h,List.cons_append,List.head?_cons,List.tail_cons,hd]
   rw [if_neg (by omega),if_neg (by simp),if_neg (by simp),if_neg (by simp [h4];omega),if_pos trivial]
   congr 2;omega
 ·have hm:=decDigits_no45 n.natAbs r
  rw [natOf_own (own:=Lib.decDigits n.natAbs++r) (by rw [h,if_neg hm]),hi]
  rw [← h] at hm
  rcases hr with ⟨rfl,rfl⟩|⟨rfl,h2,h3,h4⟩
  ·simp only []
   rw [if_neg (fun hc=>hm hc.1),if_pos trivial,if_neg hm]
   congr 2;omega
  ·have hd:=natInt_decDigits (r:=[]) h3 (Or.inl rfl)
   rw [List.append_nil] at hd
   simp only [List.head?_cons,List.tail_cons,hd]
   rw [if_neg (fun hc=>hm hc.1),if_neg (by simp),if_neg (by simp),if_neg (by simp [h4];omega),if_neg hm]
   congr 2;omega
theorem natOf_ratText {q:Rat} (h:Small q):natOf (ratText q)=some (q.num,q.den):=by
 unfold ratText
 split
 ·rename_i h1
  have:=natOf_dec (n:=q.num) (d:=1) (r:=[]) h.1 (Or.inl ⟨rfl,rfl⟩)
  rw [List.append_nil] at this
  rw [this,h1]
 ·rename_i h1
  have:=q.den_pos
  exact natOf_dec h.1 (Or.inr ⟨rfl,by omega,h.2,q.reduced⟩)
theorem divInt_parts (n d:Int) (hd:0 < d):∃ a b:Int,∃ g:Nat,g=Int.gcd (max n (-n)) d∧0 < g∧n=a * g∧d=b * g∧0 < b∧(Rat.divInt n d).num=a∧((Rat.divInt n d).den:Int)=b∧n.tdiv g=a∧d.tdiv g=b:=by
 have e:Int.gcd (max n (-n)) d=Int.gcd n d:=by
  simp only [Int.gcd];congr 1;omega
 have g0:0 < Int.gcd n d:=Int.gcd_pos_of_ne_zero_right _ (by omega)
 obtain ⟨a,ha⟩:=Int.gcd_dvd_left n d
 obtain ⟨b,hb⟩:=Int.gcd_dvd_right n d
 have hn:(Rat.divInt n d).num=n / (Int.gcd n d:Int):=by rw [Rat.num_divInt,Int.sign_eq_one_of_pos hd,Int.one_mul,Int.gcd_comm]
 have hdn:(Rat.divInt n d).den=d.natAbs / Int.gcd n d:=by rw [Rat.den_divInt,if_neg (by omega),Int.gcd_comm]
 rw [e]
 generalize Int.gcd n d=G at *
 have gz:(0:Int) < (G:Int):=by omega
 have hb0:0 < b:=by
  rw [hb] at hd
  exact Int.pos_of_mul_pos_right hd gz
 refine ⟨a,b,G,rfl,g0,by rw [Int.mul_comm];exact ha,by rw [Int.mul_comm];exact hb,hb0,?_,?_,?_,?_⟩
 ·rw [hn];exact Int.ediv_eq_of_eq_mul_right (by omega) ha
 ·rw [hdn]
  have:d.natAbs=G * b.natAbs:=by rw [hb,Int.natAbs_mul];rfl
  rw [this,Nat.mul_div_cancel_left _ g0];omega
 ·rw [ha];exact Int.mul_tdiv_cancel_left _ (by omega)
 ·rw [hb];exact Int.mul_tdiv_cancel_left _ (by omega)
end Go.Proofs.YthihcjgmlbnapaaGreatDoor
/- Plain: what cutting a valid number gives. -/
namespace Go.Proofs.YthihcjgmlbnapaaGreatDoor
open Go
/-- rational.digits -/
def digs (l:List UInt8):Nat:=if 1 < nDig l∧l.head?=some 48 then 0 else nDig l
theorem digs_dec (n:Nat):digs (Lib.decDigits n)=(Lib.decDigits n).length:=by
  have e:=nDig_append (l:=Lib.decDigits n) (r:=[]) (decDigits_isDig n) (Or.inl rfl)
  rw [List.append_nil] at e
  unfold digs
  rw [e,if_neg (fun h=>decDigits_head n h.1 h.2)]
theorem index_append (a r:List UInt8) (h:∀ c ∈ a,c≠47):Lib.index (a++47::r) [47]=a.length:=by
  induction a with
  | nil=>simp [Lib.index]
  | cons c a ih =>
    have hc:=h c (by simp)
    have:=ih (fun c hc=>h c (by simp [hc]))
    simp only [List.cons_append,Lib.index,List.isPrefixOf,this,List.length_cons]
    rw [if_neg (by simpa using hc.symm),if_neg (by simp;try omega)]
    omega
theorem index_none (a:List UInt8) (h:∀ c ∈ a,c≠47):Lib.index a [47]=-1:=by
  induction a with
  | nil=>simp [Lib.index]
  | cons c a ih =>
    have hc:=h c (by simp)
    have:=ih (fun c hc=>h c (by simp [hc]))
    simp only [Lib.index,List.isPrefixOf,this]
    rw [if_neg (by simpa using hc.symm),if_pos (by simp)]
theorem itoa_no47 (n:Int):∀ c ∈ Lib.itoa n,c≠47:=by
  intro c hc
  have hd:∀ c,isDig c=true→c≠47:=fun c h e=>by subst e;exact absurd h (by decide)
  rcases itoa_cases n with ⟨_,e⟩|⟨_,e⟩
  · rw [e,List.mem_cons] at hc
    rcases hc with rfl|hc
    · decide
    · exact hd c (decDigits_isDig _ c hc)
  · rw [e] at hc
    exact hd c (decDigits_isDig _ c hc)
theorem cut_itoa (n:Int):Lib.cut (Lib.itoa n) [47]=(Lib.itoa n,[],false):=by
  unfold Lib.cut
  rw [index_none _ (itoa_no47 n),if_neg (by omega)]
theorem cut_frac (n:Int) (r:List UInt8):Lib.cut (Lib.itoa n++47::r) [47]=(Lib.itoa n,r,true):=by
  unfold Lib.cut
  rw [index_append _ _ (itoa_no47 n),if_pos (by omega)]
  simp
/-- the sign of a text -/
theorem trim_itoa (n:Int):Lib.trimPrefix (Lib.itoa n) [45]=Lib.decDigits n.natAbs∧(Lib.hasPrefix (Lib.itoa n) [45]=true→0 < n.natAbs):=by
  rcases itoa_cases n with ⟨h,e⟩|⟨h,e⟩
  · rw [e]
    exact ⟨by simp [Lib.trimPrefix,Lib.hasPrefix],fun _=>by omega⟩
  · rw [e]
    have h1:=decDigits_no45 n.natAbs []
    rw [List.append_nil] at h1
    have h2:Lib.hasPrefix (Lib.decDigits n.natAbs) [45]=false:=by
      cases hd:Lib.decDigits n.natAbs with
      | nil=>rfl
      | cons a t =>
        rw [hd] at h1
        simp only [Lib.hasPrefix,List.isPrefixOf,Bool.and_true]
        simpa using fun e=>h1 (by simp [← e])
    exact ⟨by simp [Lib.trimPrefix,h2],fun h=>by rw [h2] at h;cases h⟩
theorem trim_len (n:Int):(Lib.decDigits n.natAbs).length≤(Lib.itoa n).length:=by
  rcases itoa_cases n with ⟨h,e⟩|⟨h,e⟩<;>rw [e]<;>simp
theorem dec_ne_zero {n:Nat} (h:0 < n):Lib.decDigits n≠[48]:=by
  intro e
  have:=dval_decDigits n
  rw [e] at this
  have h1:dval [48]=0:=by decide
  omega
theorem dec_ne_one {n:Nat} (h:n≠1):Lib.decDigits n≠[49]:=by
  intro e
  have:=dval_decDigits n
  rw [e] at this
  have h1:dval [49]=1:=by decide
  omega
theorem dval_acc:∀ (l:List UInt8) (a:Nat),l.foldl (fun a c=>10 * a+(c.toNat - 48)) a=a * 10 ^ l.length+dval l
  | [],a=>by simp [dval]
  | c::r,a=>by
    have h1:=dval_acc r (10 * a+(c.toNat - 48))
    have h2:=dval_acc r (10 * 0+(c.toNat - 48))
    simp only [dval,List.foldl_cons,List.length_cons,Nat.pow_succ] at h1 h2 ⊢
    rw [h1,h2,Nat.add_mul,Nat.add_mul,Nat.mul_comm 10 a,Nat.mul_assoc,Nat.mul_comm 10 (10 ^ _)];omega
theorem dval_append (l r:List UInt8):dval (l++r)=dval l * 10 ^ r.length+dval r:=by
  rw [dval,List.foldl_append];exact dval_acc r _
theorem dval_cons (c:UInt8) (r:List UInt8):dval (c::r)=(c.toNat - 48) * 10 ^ r.length+dval r:=by
  have:=dval_append [c] r
  simpa [dval] using this
theorem parse_digits:∀ (l:List UInt8) (acc:Nat),(∀ c ∈ l,isDig c=true)→acc * 10 ^ l.length+dval l < 18446744073709551616→Lib.parseUint10 acc l=.ok (acc * 10 ^ l.length+dval l)
  | [],acc,_,_=>by simp [Lib.parseUint10,dval]
  | c::r,acc,h,hb=>by
    have hc:=(isDig_iff c).1 (h c (by simp))
    have h10:1≤10 ^ r.length:=Nat.one_le_pow _ _ (by omega)
    rw [dval_cons,List.length_cons,Nat.pow_succ] at hb ⊢
    have e:acc * (10 ^ r.length * 10)+((c.toNat - 48) * 10 ^ r.length+dval r)=(acc * 10+(c.toNat - 48)) * 10 ^ r.length+dval r:=by
      rw [Nat.add_mul,Nat.mul_assoc acc 10,Nat.mul_comm 10];omega
    rw [e] at hb ⊢
    have hlt:acc * 10+(c.toNat - 48) < 18446744073709551616:=by
      have:=Nat.mul_le_mul_left (acc * 10+(c.toNat - 48)) h10
      omega
    rw [Lib.parseUint10,if_pos hc,if_neg (by omega),if_neg (by omega)]
    exact parse_digits r _ (fun c hc=>h c (by simp [hc])) hb
theorem atoi_itoa {n:Int} (h0 : -9223372036854775808≤n) (h1:n≤9223372036854775807):Lib.atoiAll (Lib.itoa n)=.ok n:=by
  have hp:Lib.parseMag (Lib.decDigits n.natAbs)=.ok n.natAbs:=by
    have:=parse_digits (Lib.decDigits n.natAbs) 0 (decDigits_isDig _) (by rw [dval_decDigits];omega)
    rw [dval_decDigits] at this
    unfold Lib.parseMag
    rw [if_neg (decDigits_ne _),this];simp
  rcases itoa_cases n with ⟨h,e⟩|⟨h,e⟩
  · rw [e]
    simp only [Lib.atoiAll]
    rw [if_pos (by decide),hp]
    simp only []
    rw [if_neg (by simp),if_neg (by simp;omega),if_pos (by decide)]
    congr 1;omega
  · rw [e]
    cases hd:Lib.decDigits n.natAbs with
    | nil=>exact absurd hd (decDigits_ne _)
    | cons c r =>
      have hc:=(isDig_iff c).1 (decDigits_isDig n.natAbs c (by rw [hd];simp))
      simp only [Lib.atoiAll]
      rw [if_neg (by omega),← hd,hp]
      simp only []
      rw [if_neg (by omega),if_neg (by omega),if_neg (by omega)]
      congr 1;omega
end Go.Proofs.YthihcjgmlbnapaaGreatDoor
namespace Go.Proofs.YthihcjgmlbnapaaGreatDoor
open Go
theorem dropWhile_all {p:UInt8→Bool} (l:List UInt8) (h:∀ c ∈ l,p c=true):l.dropWhile p=[]:=by
 induction l with
 | nil=>rfl
 | cons a t ih=>rw [List.dropWhile_cons,if_pos (h a (by simp))];exact ih fun c hc=>h c (by simp [hc])
theorem contains_digit (c:UInt8):([48,49,50,51,52,53,54,55,56,57]:List UInt8).contains c=isDig c:=by
 have h:∀ n:Fin 256,([48,49,50,51,52,53,54,55,56,57]:List UInt8).contains (UInt8.ofNat n.val)=isDig (UInt8.ofNat n.val):=by decide +kernel
 have:=h ⟨c.toNat,c.toNat_lt⟩
 simpa using this
theorem trimS_digits (l:List UInt8) (h:∀ c ∈ l,isDig c=true):Lib.trimS l [48,49,50,51,52,53,54,55,56,57]=[]:=by
 have e:Lib.trimRightS l [48,49,50,51,52,53,54,55,56,57]=[]:=by
  unfold Lib.trimRightS
  rw [dropWhile_all];rfl
  intro c hc
  rw [contains_digit];exact h c (by simpa using hc)
 rw [Lib.trimS,e];rfl
theorem decDigits_head' {n:Nat} (h:0 < n):(Lib.decDigits n).head?≠some 48:=by
 by_cases hl:1 < (Lib.decDigits n).length
 ·exact decDigits_head n hl
 ·have hs:n < 10:=by
   refine Decidable.byContradiction fun hc=>hl ?_
   rw [Lib.decDigits,dif_neg hc]
   have:=List.length_pos_iff.2 (decDigits_ne (n / 10))
   simp;omega
  rw [Lib.decDigits,dif_pos hs]
  have key:∀ k,k < 10→0 < k→(UInt8.ofNat (48+k))≠48:=by decide
  simpa using key _ hs h
theorem itoa_zero:Lib.itoa 0=[48]:=by rw [Lib.itoa,if_neg (by omega)];simpa using Lib.decDigits_one (i:=0) (by omega)
theorem itoa_ne0 {n:Int} (h:n≠0):Lib.itoa n≠[48]:=by
 rcases itoa_cases n with ⟨h1,e⟩|⟨h1,e⟩
 ·rw [e];intro h2;injection h2 with h3 h4;exact absurd h3 (by decide)
 ·rw [e];exact dec_ne_zero (by omega)
theorem pow_le_of_lt {n k:Nat} (h:(Lib.decDigits n).length≤k):n < 10 ^ k:=by
 rw [Lib.decDigits_length] at h
 exact Nat.lt_of_lt_of_le (Lib.lt_pow_nDigits n) (Nat.pow_le_pow_right (by omega) h)
theorem itoa_lt {n:Int} {k:Nat} (h:(Lib.itoa n).length≤k):n.natAbs < 10 ^ k:=pow_le_of_lt (Nat.le_trans (trim_len n) h)
theorem nDigits_le_of_lt {n k:Nat} (h:n < 10 ^ k) (hk:1≤k):Lib.nDigits n≤k:=by
 refine Nat.le_of_not_lt fun hc=>?_
 have:∀ k m,k < Lib.nDigits m→1≤k→10 ^ k≤m:=by
  intro k
  induction k with
  | zero=>intro m _ h;omega
  | succ k ih =>
   intro m hm _
   by_cases hs:m < 10
   ·rw [Lib.nDigits_small hs] at hm;omega
   ·rw [Lib.nDigits_big hs] at hm
    by_cases hk:1≤k
    ·have:=ih (m / 10) (by omega) hk
     rw [Nat.pow_succ];omega
    ·have:k=0:=by omega
     subst this;omega
 have:=this k n hc hk
 omega
theorem itoa_len_le {n:Int} {k:Nat} (h:n.natAbs < 10 ^ k) (hk:1≤k):(Lib.itoa n).length≤k+1:=by
 have:=nDigits_le_of_lt h hk
 rcases itoa_cases n with ⟨_,e⟩|⟨_,e⟩<;>rw [e]<;>simp [Lib.decDigits_length]<;>omega
end Go.Proofs.YthihcjgmlbnapaaGreatDoor
namespace Go.Proofs.YthihcjgmlbnapaaGreatDoor
open Go
def goodDig (l:List UInt8):Bool:=decide (nDig l=1) || (decide (1 < nDig l) && decide (l.head?≠some 48))
def tkD (l:List UInt8):List UInt8:=l.take (nDig l)
def drD (l:List UInt8):List UInt8:=l.drop (nDig l)
def signF (l:List UInt8) (first:Bool):Option (List UInt8 × List UInt8):=if l.head?=some 45 then some ([45],l.tail) else if l.head?=some 43∧first=false then some ([],l.tail) else if first=true then some ([],l) else none
def fracF (c l:List UInt8):Option (List UInt8 × List UInt8):=if l.head?=some 47 then (if goodDig l.tail=true then some (c++47::tkD l.tail,drD l.tail) else none) else some (c,l)
def rootF (l:List UInt8):Option (List UInt8 × List UInt8):=if l.head?=some 114 then (if goodDig l.tail=true then some (tkD l.tail,drD l.tail) else none) else some ([49],l)
def termF (l:List UInt8) (first:Bool):Option (List UInt8 × List UInt8 × List UInt8) :=
 match signF l first with
 | none=>none
 | some (sg,l1)=>if goodDig l1=true then
   (match fracF (sg++tkD l1) (drD l1) with
   | none=>none
   | some (c,l2)=>match rootF l2 with
    | none=>none
    | some (r,l3)=>some (c,r,l3))
  else none
def termT (q:Rat) (m:Nat):List UInt8:=ratText q++(if m=1 then [] else 114::Lib.decDigits m)
def Ends (r:List UInt8):Prop:=r=[]∨∃ c t,r=c::t∧(c=43∨c=45)
theorem Ends.nodig {r:List UInt8} (h:Ends r):r=[]∨∃ c t,r=c::t∧isDig c=false:=by
 rcases h with rfl|⟨c,t,rfl,rfl|rfl⟩
 ·exact .inl rfl
 ·exact .inr ⟨_,_,rfl,by decide⟩
 ·exact .inr ⟨_,_,rfl,by decide⟩
theorem nDig_dec (n:Nat) {r:List UInt8} (hr:r=[]∨∃ c t,r=c::t∧isDig c=false):nDig (Lib.decDigits n++r)=(Lib.decDigits n).length:=nDig_append (decDigits_isDig n) hr
theorem good_dec (n:Nat) {r:List UInt8} (hr:r=[]∨∃ c t,r=c::t∧isDig c=false):goodDig (Lib.decDigits n++r)=true:=by
 have h0:(Lib.decDigits n).length≠0:=fun h=>decDigits_ne n (List.length_eq_zero_iff.1 h)
 unfold goodDig
 rw [nDig_dec n hr]
 by_cases h1:(Lib.decDigits n).length=1
 ·simp [h1]
 ·have h2:1 < (Lib.decDigits n).length:=by omega
  have h3:=decDigits_head n h2
  have h4:(Lib.decDigits n++r).head?=(Lib.decDigits n).head?:=by
   cases hd:Lib.decDigits n with
   | nil=>exact absurd hd (decDigits_ne n)
   | cons a l=>rfl
  rw [h4]
  simp [h2,h3]
theorem tk_dec (n:Nat) {r:List UInt8} (hr:r=[]∨∃ c t,r=c::t∧isDig c=false):tkD (Lib.decDigits n++r)=Lib.decDigits n:=by
 unfold tkD;rw [nDig_dec n hr,List.take_left]
theorem dr_dec (n:Nat) {r:List UInt8} (hr:r=[]∨∃ c t,r=c::t∧isDig c=false):drD (Lib.decDigits n++r)=r:=by
 unfold drD;rw [nDig_dec n hr,List.drop_left]
theorem one_dec:Lib.decDigits 1=[49]:=by decide +kernel
theorem rootF_text {m:Nat} {r:List UInt8} (hr:Ends r):rootF ((if m=1 then [] else 114::Lib.decDigits m)++r)=some (Lib.decDigits m,r):=by
 unfold rootF
 by_cases h:m=1
 ·subst h
  rw [if_pos rfl,one_dec,List.nil_append,if_neg]
  rcases hr with rfl|⟨c,t,rfl,rfl|rfl⟩<;>simp
 ·rw [if_neg h,List.cons_append,List.head?_cons,if_pos rfl,List.tail_cons,if_pos (good_dec m hr.nodig),tk_dec m hr.nodig,dr_dec m hr.nodig]
theorem rootT_nodig {m:Nat} {r:List UInt8} (hr:Ends r):((if m=1 then [] else 114::Lib.decDigits m)++r=[]∨∃ c t,(if m=1 then [] else 114::Lib.decDigits m)++r=c::t∧isDig c=false)∧((if m=1 then [] else 114::Lib.decDigits m)++r).head?≠some 47:=by
 by_cases h:m=1
 ·rw [if_pos h,List.nil_append]
  refine ⟨hr.nodig,?_⟩
  rcases hr with rfl|⟨c,t,rfl,rfl|rfl⟩<;>simp
 ·rw [if_neg h,List.cons_append]
  exact ⟨.inr ⟨_,_,rfl,by decide⟩,by simp⟩
theorem fracF_text {d:Nat} {c r:List UInt8} (hr:r=[]∨∃ c t,r=c::t∧isDig c=false) (h47:r.head?≠some 47) :
  fracF c ((if d=1 then [] else 47::Lib.decDigits d)++r)=some (c++(if d=1 then [] else 47::Lib.decDigits d),r):=by
 unfold fracF
 by_cases h:d=1
 ·rw [if_pos h,List.nil_append,if_neg h47,List.append_nil]
 ·rw [if_neg h,List.cons_append,List.head?_cons,if_pos rfl,List.tail_cons,if_pos (good_dec d hr),tk_dec d hr,dr_dec d hr]
theorem ratText_parts (q:Rat):ratText q=(if q.num < 0 then [45] else [])++(Lib.decDigits q.num.natAbs++(if q.den=1 then [] else 47::Lib.decDigits q.den)):=by
 unfold ratText
 rcases itoa_cases q.num with ⟨h,e⟩|⟨h,e⟩
 ·by_cases hd:q.den=1<;>simp [hd,h,e]
 ·have h':¬ q.num < 0:=by omega
  by_cases hd:q.den=1<;>simp [hd,h',e]
theorem termF_text (q:Rat) (m:Nat) (first:Bool) {r:List UInt8} (hr:Ends r):termF ((if first=true∨q.num < 0 then [] else [43])++(termT q m++r)) first=some (ratText q,Lib.decDigits m,r):=by
 obtain ⟨k1,k2⟩:=rootT_nodig (m:=m) hr
 have k3:∀ z:List UInt8,(z=(if q.den=1 then [] else 47::Lib.decDigits q.den)++((if m=1 then [] else 114::Lib.decDigits m)++r))→z=[]∨∃ c t,z=c::t∧isDig c=false:=by
  intro z hz
  by_cases hd:q.den=1
  ·rw [if_pos hd,List.nil_append] at hz;rw [hz];exact k1
  ·rw [if_neg hd,List.cons_append] at hz;exact .inr ⟨_,_,hz,by decide⟩
 have e:termT q m++r=(if q.num < 0 then [45] else [])++(Lib.decDigits q.num.natAbs++((if q.den=1 then [] else 47::Lib.decDigits q.den)++((if m=1 then [] else 114::Lib.decDigits m)++r))):=by
  unfold termT;rw [ratText_parts];simp only [List.append_assoc]
 have key:∀ sg:List UInt8,(if goodDig (Lib.decDigits q.num.natAbs++((if q.den=1 then [] else 47::Lib.decDigits q.den)++((if m=1 then [] else 114::Lib.decDigits m)++r)))=true then
   (match fracF (sg++tkD (Lib.decDigits q.num.natAbs++((if q.den=1 then [] else 47::Lib.decDigits q.den)++((if m=1 then [] else 114::Lib.decDigits m)++r)))) (drD (Lib.decDigits q.num.natAbs++((if q.den=1 then [] else 47::Lib.decDigits q.den)++((if m=1 then [] else 114::Lib.decDigits m)++r)))) with
   | none=>none
   | some (c,l2)=>match rootF l2 with
    | none=>none
    | some (r,l3)=>some (c,r,l3))
  else none)=some (sg++(Lib.decDigits q.num.natAbs++(if q.den=1 then [] else 47::Lib.decDigits q.den)),Lib.decDigits m,r):=by
  intro sg
  rw [if_pos (good_dec _ (k3 _ rfl)),tk_dec _ (k3 _ rfl),dr_dec _ (k3 _ rfl),fracF_text k1 k2]
  simp only [rootF_text hr,List.append_assoc]
 have h45:∀ l:List UInt8,(Lib.decDigits q.num.natAbs++l).head?≠some 45:=fun l=>decDigits_no45 _ l
 have h43:∀ l:List UInt8,(Lib.decDigits q.num.natAbs++l).head?≠some 43:=by
  intro l h
  cases hd:Lib.decDigits q.num.natAbs with
  | nil=>exact decDigits_ne _ hd
  | cons a t =>
   rw [hd] at h
   have:=decDigits_isDig q.num.natAbs a (by rw [hd];simp)
   simp at h
   subst h
   exact absurd this (by decide)
 unfold termF
 rw [e,ratText_parts q]
 by_cases hn:q.num < 0
 ·rw [if_pos (.inr hn),if_pos hn,List.nil_append]
  have hs:∀ l:List UInt8,signF ([45]++l) first=some ([45],l):=fun l=>by unfold signF;simp
  rw [hs]
  exact key [45]
 ·rw [if_neg hn,List.nil_append,List.nil_append]
  cases first with
  | true =>
   rw [if_pos (.inl rfl),List.nil_append]
   have hs:signF (Lib.decDigits q.num.natAbs++((if q.den=1 then [] else 47::Lib.decDigits q.den)++((if m=1 then [] else 114::Lib.decDigits m)++r))) true=some ([],Lib.decDigits q.num.natAbs++((if q.den=1 then [] else 47::Lib.decDigits q.den)++((if m=1 then [] else 114::Lib.decDigits m)++r))):=by
    unfold signF;rw [if_neg (h45 _),if_neg (fun h=>h43 _ h.1),if_pos rfl]
   rw [hs]
   exact key []
  | false =>
   rw [if_neg (by simp [hn])]
   have hs:∀ l:List UInt8,signF ([43]++l) false=some ([],l):=fun l=>by unfold signF;simp
   rw [hs]
   exact key []
def textT:Bool→List (Rat × Nat)→List UInt8
 | _,[]=>[]
 | first,(q,m)::l=>(if first=true∨q.num < 0 then [] else [43])++(termT q m++textT false l)
theorem textT_ends:∀ l:List (Rat × Nat),Ends (textT false l)
 | []=>.inl rfl
 | (q,m)::l=>by
  unfold textT
  by_cases hn:q.num < 0
  ·rw [if_pos (.inr hn),List.nil_append]
   unfold termT
   rw [ratText_parts,if_pos hn]
   exact .inr ⟨45,_,rfl,.inr rfl⟩
  ·rw [if_neg (by simp [hn])]
   exact .inr ⟨43,_,rfl,.inl rfl⟩
theorem termF_textT (q:Rat) (m:Nat) (first:Bool) (l:List (Rat × Nat)):termF (textT first ((q,m)::l)) first=some (ratText q,Lib.decDigits m,textT false l):=termF_text q m first (textT_ends l)
end Go.Proofs.YthihcjgmlbnapaaGreatDoor
namespace Go.Proofs.YthihcjgmlbnapaaGreatDoor
open Go
def isSqN (n:Nat):Bool:=decide (rootN n * rootN n=n)
def ratioB (a b:Nat):Bool:=isSqN (a / Nat.gcd a b) && isSqN (b / Nat.gcd a b)
abbrev TTexts:=List (ByteArray × ByteArray)
def tt (L:TTexts) (k:Nat):ByteArray × ByteArray:=L.getD k (⟨#[]⟩,⟨#[]⟩)
abbrev Terms:=List (Rat × Nat)
def tq (T:Terms) (k:Nat):Rat × Nat:=T.getD k (0,0)
structure TermOk (c r:ByteArray) (q:Rat) (m:Nat):Prop where
 c:c.data.toList=ratText q
 r:r.data.toList=Lib.decDigits m
 q0:q≠0
 cn:(Lib.decDigits q.num.natAbs).length≤60
 cd:(Lib.decDigits q.den).length≤60
 m1:1≤m
 rn:(Lib.decDigits m).length≤40
 nm:m=1∨normalN m=(1,m)
structure SurdIs (L:TTexts) (T:Terms):Prop where
 len:L.length≤16
 same:T.length=L.length
 ok:∀ k,k < L.length→TermOk (tt L k).1 (tt L k).2 (tq T k).1 (tq T k).2
 asc:∀ k,k+1 < L.length→(tq T k).2 < (tq T (k+1)).2
 apart:∀ i k,i < k→k < L.length→ratioB (tq T k).2 (tq T i).2=false
def SurdOk (L:TTexts):Prop:=∃ T,SurdIs L T
theorem ratText_injP {p q:Rat} (h:ratText p=ratText q):p=q:=by
 rw [ratText_parts,ratText_parts] at h
 have key:∀ (a b c d:Nat),Lib.decDigits a++(if b=1 then [] else 47::Lib.decDigits b)=Lib.decDigits c++(if d=1 then [] else 47::Lib.decDigits d)→a=c∧b=d:=by
  intro a b c d h
  have hn:∀ b:Nat,(if b=1 then [] else 47::Lib.decDigits b:List UInt8)=[]∨∃ x t,(if b=1 then [] else 47::Lib.decDigits b:List UInt8)=x::t∧isDig x=false:=by
   intro b
   by_cases hb:b=1
   ·rw [if_pos hb];exact .inl rfl
   ·rw [if_neg hb];exact .inr ⟨_,_,rfl,by decide⟩
  have h1:tkD (Lib.decDigits a++(if b=1 then [] else 47::Lib.decDigits b))=tkD (Lib.decDigits c++(if d=1 then [] else 47::Lib.decDigits d)):=by rw [h]
  have h2:drD (Lib.decDigits a++(if b=1 then [] else 47::Lib.decDigits b))=drD (Lib.decDigits c++(if d=1 then [] else 47::Lib.decDigits d)):=by rw [h]
  rw [tk_dec _ (hn b),tk_dec _ (hn d)] at h1
  rw [dr_dec _ (hn b),dr_dec _ (hn d)] at h2
  have e1:a=c:=by have:=congrArg dval h1;rwa [dval_decDigits,dval_decDigits] at this
  refine ⟨e1,?_⟩
  by_cases hb:b=1
  ·by_cases hd:d=1
   ·rw [hb,hd]
   ·rw [if_pos hb,if_neg hd] at h2;cases h2
  ·by_cases hd:d=1
   ·rw [if_neg hb,if_pos hd] at h2;cases h2
   ·rw [if_neg hb,if_neg hd] at h2
    have h3:Lib.decDigits b=Lib.decDigits d:=by injection h2
    have:=congrArg dval h3;rwa [dval_decDigits,dval_decDigits] at this
 have h45:∀ (n:Nat) (l r:List UInt8),45::r≠Lib.decDigits n++l:=fun n l r e=>decDigits_no45 n l (by rw [← e];rfl)
 by_cases hp:p.num < 0
 ·by_cases hq:q.num < 0
  ·rw [if_pos hp,if_pos hq] at h
   obtain ⟨e1,e2⟩:=key _ _ _ _ (List.append_cancel_left h)
   exact Rat.ext (by omega) e2
  ·rw [if_pos hp,if_neg hq] at h
   exact absurd h (h45 _ _ _)
 ·by_cases hq:q.num < 0
  ·rw [if_neg hp,if_pos hq] at h
   exact absurd h.symm (h45 _ _ _)
  ·rw [if_neg hp,if_neg hq] at h
   obtain ⟨e1,e2⟩:=key _ _ _ _ h
   exact Rat.ext (by omega) e2
theorem TermOk.uniq {c r:ByteArray} {q q':Rat} {m m':Nat} (h:TermOk c r q m) (k:TermOk c r q' m'):q=q'∧m=m':=by
 refine ⟨ratText_injP (h.c.symm.trans k.c),?_⟩
 have:=congrArg dval (h.r.symm.trans k.r)
 rwa [dval_decDigits,dval_decDigits] at this
theorem SurdIs.uniq {L:TTexts} {T T':Terms} (h:SurdIs L T) (k:SurdIs L T'):T=T':=by
 refine List.ext_getElem (h.same.trans k.same.symm) fun i h1 h2=>?_
 have hi:i < L.length:=by rw [← h.same];exact h1
 obtain ⟨e1,e2⟩:=(h.ok i hi).uniq (k.ok i hi)
 have g1:tq T i=T[i]:=by simp [tq,h1]
 have g2:tq T' i=T'[i]:=by simp [tq,h2]
 rw [g1] at e1 e2
 rw [g2] at e1 e2
 exact Prod.ext e1 e2
theorem dec_inj {a b:Nat} (h:Lib.decDigits a=Lib.decDigits b):a=b:=by
 have:=congrArg dval h;rwa [dval_decDigits,dval_decDigits] at this
theorem termT_ne (q:Rat) (m:Nat):termT q m≠[]:=by
 unfold termT
 rw [ratText_parts]
 intro h
 have h1:=(List.append_eq_nil_iff.1 h).1
 have h2:=(List.append_eq_nil_iff.1 h1).2
 exact decDigits_ne _ (List.append_eq_nil_iff.1 h2).1
theorem textT_ne {first:Bool} {x:Rat × Nat} {l:Terms}:textT first (x::l)≠[]:=by
 obtain ⟨q,m⟩:=x
 unfold textT
 intro h
 exact termT_ne q m (List.append_eq_nil_iff.1 (List.append_eq_nil_iff.1 h).2).1
end Go.Proofs.YthihcjgmlbnapaaGreatDoor
namespace Go.Proofs.YthihcjgmlbnapaaGreatDoor
open Go.RowKit
def prS (i:Nat):ByteArray:=⟨(Lib.decDigits (primes25.getD i 0)).toArray⟩
def primesL:List Value:=primes25.map (fun p=>.string ⟨(Lib.decDigits p).toArray⟩)
theorem primesL_get {i:Nat} (h:i < 25):primesL[i]?=some (.string (prS i)):=by
 have h':i < primes25.length:=h
 unfold primesL prS
 rw [List.getElem?_map,List.getElem?_eq_getElem h',List.getD_eq_getElem?_getD,List.getElem?_eq_getElem h']
 rfl
def Pri (w:World):Prop:=∀ i,i < 25→w.cell? ⟨2,i,none⟩=some (.string (prS i))
theorem Pri.below {w w':World} (h:Pri w) (hB:Below w.heap.size w w'):Pri w':=fun i hi=>keep hB (h i hi)
theorem addr_add' (b off j:Nat):Addr.add ⟨b,off,none⟩ j=⟨b,off+j,none⟩:=by
 unfold Addr.add
 by_cases h:j=0
 ·simp [h]
 ·simp [h]
theorem pri_cells {w:World} (h:Pri w):Sem.run Tryz.prog (loadCellsFrom ⟨2,0,none⟩ 0 25 #[]) w=.ok primesL.toArray w:=by
 have key:=run_loadCells_list (P:=Tryz.prog) (w:=w) ⟨2,0,none⟩ primesL ?_
 ·simpa [loadCells,primesL,primes25] using key
 intro j v hj
 have hlt:j < 25:=(List.getElem?_eq_some_iff.1 hj).1
 rw [addr_add',Nat.zero_add]
 rw [primesL_get hlt] at hj
 injection hj with hj
 rw [← hj]
 exact h j hlt
def primesV:Value:=.agg primesL.toArray
theorem pri_load {w:World} (h:Pri w):(loadVar 228 ⟨2,0,none⟩).run Tryz.prog w=.ok primesV w:=by
 have hl:=pri_cells h
 have ha:=Tryz.isAgg228
 have hz:=Tryz.sizeOf228
 simp only [loadVar,loadCells,Sem.run_bind,ha,hz,hl,Result.andThen_ok,Sem.run_pure,if_true,Sem.run_ite]
 rfl
theorem primes_two {i:Nat} (h:i < 25):2≤primes25.getD i 0∧primes25.getD i 0≤97:=by
 have key:∀ k:Fin 25,2≤primes25.getD k.1 0∧primes25.getD k.1 0≤97:=by decide
 exact key ⟨i,h⟩
theorem prS_list (i:Nat):(prS i).data.toList=Lib.decDigits (primes25.getD i 0):=by simp [prS]
end Go.Proofs.YthihcjgmlbnapaaGreatDoor
namespace Go.Proofs.YthihcjgmlbnapaaGreatDoor
open Go.RowKit
theorem laidMet_tail3 {P:Program} {x:String × DataW Unit} {rest:List (String × DataW Unit)} {w:World} (h:laidMet P (x::rest) w):laidMet P rest w:=by
 obtain ⟨ps,⟨g,t,cs,fuel,p,q,h1,h2,h3,h4,h5,h6⟩,hn,hc⟩:=h
 subst h6
 refine ⟨q,h5,(List.nodup_append.1 hn).2.1,fun b off hb=>hc b off (List.mem_append_right _ hb)⟩
theorem size_w3:decide (12≤(begin Tryz.prog (fun _ _=>0) default).world.heap.size)=true:=by kernel_rfl
theorem gPow3 : Tryz.prog.globalNamed "internal/strconv.uint64pow10" = some 5 := by kernel_rfl
theorem tPow3:(Tryz.prog.globals[5]?).map (·.type)=some 298:=by kernel_rfl
theorem cPow3:Tryz.prog.cellsOf 298=20:=by kernel_rfl
theorem cU643:Tryz.prog.cellsOf 199=1:=by kernel_rfl
theorem gPri3 : Tryz.prog.globalNamed "kingpost/root.primes" = some 2 := by kernel_rfl
theorem tPri3:(Tryz.prog.globals[2]?).map (·.type)=some 228:=by kernel_rfl
theorem cPri3:Tryz.prog.cellsOf 228=25:=by kernel_rfl
theorem cStr3:Tryz.prog.cellsOf 9=1:=by kernel_rfl
theorem globals_le3:decide (Tryz.prog.globals.size≤11)=true:=by kernel_rfl
def pTexts:List (List UInt8):=[[50],[51],[53],[55],[49,49],[49,51],[49,55],[49,57],[50,51],[50,57],[51,49],[51,55],[52,49],[52,51],[52,55],[53,51],[53,57],[54,49],[54,55],[55,49],[55,51],[55,57],[56,51],[56,57],[57,55]]
theorem pTexts_dec:∀ i:Fin 25,pTexts.getD i.1 []=Lib.decDigits (primes25.getD i.1 0):=by decide +kernel
theorem laid_primes {H:Type}:(Rows.laid_kingpost_root_primes:DataW H)=strData pTexts:=rfl
theorem pri_of {W : World} {rest : List (String × DataW Unit)} (h : laidMet Tryz.prog (("kingpost/root.primes", Rows.laid_kingpost_root_primes) :: rest) W) : Pri W := by
 rw [laid_primes] at h
 have h1:=strTab_of_head gPri3 tPri3 Tryz.underlying228 Tryz.underlying9 cStr3 cPri3 h
 intro i hi
 have h2:=h1.cell gPri3 i hi
 rw [h2]
 unfold strVal prS
 rw [pTexts_dec ⟨i,hi⟩]
theorem glo3_of {W : World} {x1 x2 x4 x5 x6 : String × DataW Unit} {rest : List (String × DataW Unit)} (hL : laidMet Tryz.prog (x1 :: x2 :: ("internal/strconv.uint64pow10", Rows.laid_internal_strconv_uint64pow10) :: x4 :: x5 :: x6 :: ("kingpost/root.primes", Rows.laid_kingpost_root_primes) :: rest) W) (hsh : W.ShapedOpen Tryz.prog) : Glo W ∧ Pri W := by
 have h1:=laidMet_tail3 (laidMet_tail3 hL)
 have h2:=laidMet_tail3 (laidMet_tail3 (laidMet_tail3 (laidMet_tail3 h1)))
 refine ⟨⟨Lib.tabIs_of_head gPow3 tPow3 Tryz.underlying298 Tryz.underlying199 cU643 cPow3 h1,cell_of_shapedOpen_int (g:=6) (zero:=#[.int .i64 0]) (t:=3) hsh (of_decide_eq_true (by kernel_rfl)) (by kernel_rfl) rfl (by kernel_rfl) (by kernel_rfl) Tryz.underlying3,?_⟩,pri_of h2⟩
 obtain ⟨o,o0,ho,_⟩:=hsh.2 11 (of_decide_eq_true globals_le3) (of_decide_eq_true size_w3)
 have:=(Array.getElem?_eq_some_iff.1 ho).1
 omega
end Go.Proofs.YthihcjgmlbnapaaGreatDoor
namespace Go.Proofs.YthihcjgmlbnapaaGreatDoor
open Go.ChangeShapes Go.WideShapes Go.ChangeAt Go.RowKit
theorem sameAt_below {w w':World} (hB:Below w.heap.size w w'):∀ p:MemPlace,p.block < w.heap.size→w.sameAt w' p
 | .cell b off,h=>hB.cell (p:=⟨b,off,none⟩) h
 | .map b,h=>hB.block b h
theorem Tryz.laidOutRows:laidOutB Tryz.prog=true:=by kernel_rfl
theorem Tryz.mapsRows:mapsRowed Tryz.prog=true:=by kernel_rfl
theorem Tryz.slicesFull':∀ t e,t < Tryz.prog.types.size→Tryz.prog.underlying t=some (.slice e)→0 < Tryz.prog.cellsOf e:=slices_full_of Tryz.prog (by kernel_rfl)
theorem Tryz.kids:Kids Tryz.prog (fun t=>t < Tryz.prog.types.size):=kids_rows Tryz.laidOutRows Tryz.mapsRows
theorem trodAll_stays {H:Type} {enc:TypeId × Value→H} {w w':World} {sp:Nat→Bool}:∀ {ts:List TypeId} {vs:List Value} {ds:List (DataW H)} {ps:List MemPlace},(∀ t ∈ ts,t < Tryz.prog.types.size) →
  DataW.TrodAll enc Tryz.prog w 0 (fun _=>true) true ts vs ds ps→(∀ p ∈ ps,w.sameAt w' p)→(∀ p ∈ ps,sp p.block=true)→DataW.TrodAll enc Tryz.prog w' 0 sp true ts vs ds ps
 | [],[],[],_,_,h,_,_=>h
 | _::_,_::_,_::_,_,hT,⟨p,q,⟨n,hn⟩,h2,e⟩,hs,hsp =>
  ⟨p,q,⟨n,DataW.trod_stays (T:=fun t=>t < Tryz.prog.types.size) Tryz.kids (fun {t e} ht hu=>Tryz.slicesFull' t e ht hu) (fun h=>by cases h) (hT _ (List.mem_cons.2 (Or.inl rfl))) hn (fun x hx=>hs x (by rw [e];exact List.mem_append_left _ hx)) (fun x hx=>hsp x (by rw [e];exact List.mem_append_left _ hx))⟩,
   trodAll_stays (fun t ht=>hT t (List.mem_cons.2 (Or.inr ht))) h2 (fun x hx=>hs x (by rw [e];exact List.mem_append_right _ hx)) (fun x hx=>hsp x (by rw [e];exact List.mem_append_right _ hx)),e⟩
theorem post_law {H:Type} {enc:TypeId × Value→H} {fn:Func} {s:ChangeSpec} {W W':World} {args:Array Value} {ds gs:List (DataW H)} {before:List MemPlace}
  (hW:DataW.Whole enc Tryz.prog fn.params.toList s.vars false W args.toList ds gs before) (hv:s.vars=[]) (hT:∀ t ∈ fn.params.toList,t < Tryz.prog.types.size) (hrt:fn.resultTypes=#[4])
  (hr:(s.fn H (ds++gs)).results=[.lit (.bool true)]) (ha:(s.fn H (ds++gs)).args=ds) (hvs:(s.fn H (ds++gs)).vars=[]) (hB:Below W.heap.size W W') :
  s.post enc Tryz.prog fn false true false false W args (.bool true) W':=by
 have hW':=hW
 have hlt:=hW.lt
 obtain ⟨p,q,hA,hV,hb,hfz,hnd⟩:=hW
 rw [hv] at hV
 obtain ⟨rfl,rfl⟩:=trodVars_none hV
 rw [List.append_nil] at hb
 subst hb
 refine ⟨ds,[],before,[],before,[],hW',?_,?_,?_,hB.frame _,fun h=>by cases h⟩
 ·rw [hrt,hr]
  exact trodAll_mk1 (shut_bool Tryz.underlying4 _)
 ·rw [ha]
  exact trodAll_stays hT hA (fun x hx=>sameAt_below hB x (hlt x hx)) (fun x hx=>by simpa using hlt x hx)
 ·rw [hv,hvs];rfl
end Go.Proofs.YthihcjgmlbnapaaGreatDoor
namespace Go.Proofs.YthihcjgmlbnapaaGreatDoor
def pw:Nat→Int
 | 0=>1
 | k+1=>1000000000 * pw k
def vt (f:Nat→Int):Nat→Int
 | 0=>0
 | k+1=>vt f k+f k * pw k
def lim (l:List Int) (i:Nat):Int:=l.getD i 0
def val (l:List Int):Int:=vt (lim l) l.length
def Dig (x:Int):Prop:=0≤x∧x≤999999999
def Digs (l:List Int):Prop:=∀ k,Dig (lim l k)
def Trimmed (l:List Int):Prop:=l.length≠0→lim l (l.length - 1)≠0
structure Num (l:List Int) (n:Int):Prop where
 digs:Digs l
 trim:Trimmed l
 sum:val l=n
theorem lim_eq {l:List Int} {i:Nat} (h:i < l.length):lim l i=l[i]:=by simp [lim,h]
theorem lim_out {l:List Int} {i:Nat} (h:l.length≤i):lim l i=0:=by simp [lim,Nat.not_lt.2 h]
theorem lim_nil (i:Nat):lim [] i=0:=by simp [lim]
theorem lim_snoc_lt {l:List Int} {x:Int} {i:Nat} (h:i < l.length):lim (l++[x]) i=lim l i:=by
 unfold lim
 rw [List.getD_eq_getElem?_getD,List.getElem?_append_left h,← List.getD_eq_getElem?_getD]
theorem lim_snoc {l:List Int} {x:Int}:lim (l++[x]) l.length=x:=by
 unfold lim
 rw [List.getD_eq_getElem?_getD,List.getElem?_append_right (Nat.le_refl _)]
 simp
theorem lim_take {l:List Int} {k i:Nat} (h:i < k):lim (l.take k) i=lim l i:=by
 unfold lim
 rw [List.getD_eq_getElem?_getD,List.getElem?_take_of_lt h,← List.getD_eq_getElem?_getD]
theorem lim_set {l:List Int} {k:Nat} {x:Int} (h:k < l.length) (i:Nat):lim (l.set k x) i=if i=k then x else lim l i:=by
 unfold lim
 by_cases hik:i=k
 ·subst hik;simp [List.getD_eq_getElem?_getD,h]
 ·rw [if_neg hik,List.getD_eq_getElem?_getD,List.getElem?_set_ne (Ne.symm hik),← List.getD_eq_getElem?_getD]
theorem lim_ext {l l':List Int} (h:l.length=l'.length) (he:∀ i,i < l.length→lim l i=lim l' i):l=l' :=
 List.ext_getElem h fun i h1 h2=>by rw [← lim_eq h1,← lim_eq h2];exact he i h1
theorem pw_pos (k:Nat):0 < pw k:=by
 induction k with
 | zero=>decide
 | succ k ih=>unfold pw;omega
theorem pw_mono {k m:Nat} (h:k≤m):pw k≤pw m:=by
 induction m with
 | zero=>rw [Nat.le_zero.1 h];exact Int.le_refl _
 | succ m ih =>
  by_cases hk:k=m+1
  ·rw [hk];exact Int.le_refl _
  ·have:=ih (by omega)
   have:=pw_pos m
   show _≤1000000000 * pw m
   omega
theorem pw_add (k m:Nat):pw (k+m)=pw k * pw m:=by
 induction m with
 | zero=>simp [pw]
 | succ m ih=>rw [Nat.add_succ,pw,ih,pw];grind
theorem vt_congr {f g:Nat→Int} {k:Nat} (h:∀ i,i < k→f i=g i):vt f k=vt g k:=by
 induction k with
 | zero=>rfl
 | succ k ih=>rw [vt,vt,ih fun i hi=>h i (by omega),h k (by omega)]
theorem vt_bound {f:Nat→Int} {k:Nat} (h:∀ i,i < k→Dig (f i)):0≤vt f k∧vt f k < pw k:=by
 induction k with
 | zero=>exact ⟨Int.le_refl _,by show (0:Int) < 1;omega⟩
 | succ k ih =>
  obtain ⟨i1,i2⟩:=ih fun i hi=>h i (by omega)
  obtain ⟨h1,h2⟩:=h k (by omega)
  have hp:=pw_pos k
  have h3:0≤f k * pw k:=Int.mul_nonneg h1 (by omega)
  have h4:f k * pw k≤999999999 * pw k:=Int.mul_le_mul_of_nonneg_right h2 (by omega)
  show 0≤vt f k+f k * pw k∧vt f k+f k * pw k < 1000000000 * pw k
  omega
theorem vt_tail {f:Nat→Int} {n m:Nat} (hnm:n≤m) (h:∀ i,n≤i→i < m→f i=0):vt f m=vt f n:=by
 induction m with
 | zero=>rw [Nat.le_zero.1 hnm]
 | succ m ih =>
  by_cases hk:n=m+1
  ·rw [hk]
  ·rw [vt,h m (by omega) (by omega),ih (by omega) fun i h1 h2=>h i h1 (by omega)]
   omega
theorem vt_val {l:List Int} {n:Nat} (h:l.length≤n):vt (lim l) n=val l:=vt_tail h fun _ h1 _=>lim_out h1
theorem vt_split (f:Nat→Int) (j k:Nat):vt f (j+k)=vt f j+pw j * vt (fun i=>f (j+i)) k:=by
 induction k with
 | zero=>simp [vt]
 | succ k ih=>rw [Nat.add_succ,vt,ih,vt,pw_add];grind
theorem digs_of {l:List Int} (h:∀ i,i < l.length→Dig (lim l i)):Digs l:=fun k=>by
 by_cases hk:k < l.length
 ·exact h k hk
 ·rw [lim_out (by omega)];exact ⟨by omega,by omega⟩
theorem Digs.mem {l:List Int} (h:Digs l) (k:Nat):0≤lim l k∧lim l k≤999999999:=h k
theorem Digs.bound {l:List Int} (h:Digs l):0≤val l∧val l < pw l.length:=vt_bound fun i _=>h i
theorem val_of_lim {l l':List Int} (h:∀ i,lim l i=lim l' i):val l=val l':=by
 have h1:=vt_val (l:=l) (n:=max l.length l'.length) (Nat.le_max_left _ _)
 have h2:=vt_val (l:=l') (n:=max l.length l'.length) (Nat.le_max_right _ _)
 rw [← h1,← h2]
 exact vt_congr fun i _=>h i
theorem lim_take_all {l:List Int} {k:Nat} (h:∀ i,k≤i→lim l i=0) (i:Nat):lim (l.take k) i=lim l i:=by
 by_cases hi:i < k
 ·exact lim_take hi
 ·rw [h i (by omega),lim_out]
  rw [List.length_take];omega
theorem Num.low {l:List Int} {n:Int} (h:Num l n) (hl:l.length≠0):pw (l.length - 1)≤n:=by
 have h0:=h.trim hl
 obtain ⟨k,hk⟩:∃ k,l.length=k+1:=⟨l.length - 1,by omega⟩
 rw [hk,Nat.add_sub_cancel] at h0 ⊢
 have hv:val l=vt (lim l) k+lim l k * pw k:=by unfold val;rw [hk];rfl
 rw [← h.sum,hv]
 have h1:=(vt_bound (f:=lim l) (k:=k) fun i _=>h.digs i).1
 have h2:=h.digs k
 have h3:1 * pw k≤lim l k * pw k:=Int.mul_le_mul_of_nonneg_right (by have:=h2.1;omega) (by have:=pw_pos k;omega)
 omega
theorem Num.high {l:List Int} {n:Int} (h:Num l n):0≤n∧n < pw l.length:=by rw [← h.sum];exact h.digs.bound
theorem Num.zero {l:List Int} {n:Int} (h:Num l n):l.length=0↔n=0:=by
 constructor
 ·intro h0
  rw [← h.sum];unfold val;rw [h0];rfl
 ·intro h0
  refine Decidable.byContradiction fun hl=>?_
  have:=h.low hl
  have:=pw_pos (l.length - 1)
  omega
theorem Num.lt_of_length {a b:List Int} {x y:Int} (ha:Num a x) (hb:Num b y) (h:a.length < b.length):x < y:=by
 have h1:=ha.high.2
 have h2:=hb.low (by omega)
 have h3:=pw_mono (show a.length≤b.length - 1 by omega)
 omega
theorem Num.length_le {a:List Int} {x:Int} {k:Nat} (ha:Num a x) (h:x < pw k):a.length≤k:=by
 refine Decidable.byContradiction fun hc=>?_
 have h2:=ha.low (by omega)
 have h3:=pw_mono (show k≤a.length - 1 by omega)
 omega
theorem vt_top {f g:Nat→Int} {k m:Nat} (hk:k < m) (hf:∀ i,i < k→Dig (f i)) (hg:∀ i,i < k→Dig (g i)) (he:∀ i,k < i→i < m→f i=g i) (h:f k < g k):vt f m < vt g m:=by
 induction m with
 | zero=>omega
 | succ m ih =>
  by_cases hm:k=m
  ·subst hm
   have h1:=(vt_bound hf).2
   have h2:=(vt_bound hg).1
   have h3:(f k+1) * pw k≤g k * pw k:=Int.mul_le_mul_of_nonneg_right (by omega) (by have:=pw_pos k;omega)
   rw [Int.add_mul] at h3
   show vt f k+f k * pw k < vt g k+g k * pw k
   omega
  ·have h1:=ih (by omega) fun i h1 h2=>he i h1 (by omega)
   have h2:=he m (by omega) (by omega)
   show vt f m+f m * pw m < vt g m+g m * pw m
   rw [h2];omega
theorem Num.uniq {a b:List Int} {x:Int} (ha:Num a x) (hb:Num b x):a=b:=by
 have hl:a.length=b.length:=by
  rcases Nat.lt_trichotomy a.length b.length with h|h|h
  ·have:=ha.lt_of_length hb h;omega
  ·exact h
  ·have:=hb.lt_of_length ha h;omega
 refine Decidable.byContradiction fun hne=>?_
 have key:∀ m,m≤a.length→(∀ i,m≤i→i < a.length→lim a i=lim b i):=by
  intro m hm
  obtain ⟨d,hd⟩:∃ d,d=a.length - m:=⟨_,rfl⟩
  induction d generalizing m with
  | zero=>intro i h1 h2;omega
  | succ d ih =>
   have hi:=ih (m+1) (by omega) (by omega)
   intro i h1 h2
   by_cases him:i=m
   ·subst him
    rcases Int.lt_trichotomy (lim a i) (lim b i) with h|h|h
    ·have:=vt_top (f:=lim a) (g:=lim b) (m:=a.length) h2 (fun i _=>ha.digs i) (fun i _=>hb.digs i) (fun j h3 h4=>hi j (by omega) h4) h
     have h5:=ha.sum;have h6:=hb.sum;unfold val at h5 h6;rw [← hl] at h6;omega
    ·exact h
    ·have:=vt_top (f:=lim b) (g:=lim a) (m:=a.length) h2 (fun i _=>hb.digs i) (fun i _=>ha.digs i) (fun j h3 h4=>(hi j (by omega) h4).symm) h
     have h5:=ha.sum;have h6:=hb.sum;unfold val at h5 h6;rw [← hl] at h6;omega
   ·exact hi i (by omega) h2
 exact hne (lim_ext hl fun i hi=>key 0 (Nat.zero_le _) i (Nat.zero_le _) hi)
theorem sum_limbs {a b d c:Nat→Int} (h0:c 0=0) (h:∀ k,d k+1000000000 * c (k+1)=a k+b k+c k) (k:Nat):vt d k+c k * pw k=vt a k+vt b k:=by
 induction k with
 | zero=>simp [vt,h0]
 | succ k ih =>
  have:=h k
  show vt d k+d k * pw k+c (k+1) * (1000000000 * pw k)=vt a k+a k * pw k+(vt b k+b k * pw k)
  grind
theorem diff_limbs {a b d c:Nat→Int} (h0:c 0=0) (h:∀ k,d k=a k - b k - c k+1000000000 * c (k+1)) (k:Nat):vt d k+vt b k=vt a k+c k * pw k:=by
 induction k with
 | zero=>simp [vt,h0]
 | succ k ih =>
  have:=h k
  show vt d k+d k * pw k+(vt b k+b k * pw k)=vt a k+a k * pw k+c (k+1) * (1000000000 * pw k)
  grind
end Go.Proofs.YthihcjgmlbnapaaGreatDoor
namespace Go.Proofs.YthihcjgmlbnapaaGreatDoor
open Go.RowKit
theorem gcd_any (a b:Nat) (w:World) (ha:a≤4000000000000000000) (hb:b≤4000000000000000000) :
  Calls Tryz.prog 124 #[.int .i64 a,.int .i64 b] w fun e w'=>e=.returned (.int .i64 (Nat.gcd a b:Nat))∧∃ n,w'=w.drewN n:=by
 go_enter Tryz.func124,Tryz.ntmps124
 go_wp2
 go_loopw [0,1] (fun x y wr=>∃ m n:Nat,x=.int .i64 m∧y=.int .i64 n∧m≤4000000000000000000∧n≤4000000000000000000∧Nat.gcd m n=Nat.gcd a b∧∃ q,wr=w.drewN q) (fun _ y _=>(intOf y).toNat)
 case atStart=>exact ⟨a,b,rfl,rfl,ha,hb,rfl,0,rfl⟩
 case round =>
  obtain ⟨m,n,rfl,rfl,hm,hn,hg,q,rfl⟩:=hrel
  have HG:=Lib.hid hg;clear hg
  by_cases h0:n=0
  ·subst h0
   go_wp2
   go_ret
   have:=HG.out
   rw [Nat.gcd_zero_right] at this
   subst this
   exact ⟨rfl,q,rfl⟩
  ·have hne:((n:Int) != 0)=true:=by simp [h0]
   have hlt:m % n < n:=Nat.mod_lt _ (by omega)
   go_wp2
   go_quiet (fail)
   go_wp2
   go_roundw
   case rel=>exact ⟨n,m % n,rfl,by go_num,hn,by omega,by rw [← HG.out,Nat.gcd_comm m n,Nat.gcd_comm n (m % n)];exact (Nat.gcd_rec n m).symm,_,drewN_add _ _ _⟩
   case measure=>simp [intOf];omega
def natIntV (l:List UInt8):Value:=match natInt l with|none=>.tuple #[.int .i64 0,.string .empty,.bool false]|some (n,r)=>.tuple #[.int .i64 n,.string ⟨r.toArray⟩,.bool true]
theorem natIntV_none {l:List UInt8} (h:nDig l=0∨8 < nDig l∨(1 < nDig l∧l.head?=some 48)):natIntV l=.tuple #[.int .i64 0,.string .empty,.bool false]:=by
 simp only [natIntV,natInt,if_pos h]
theorem natIntV_some {l:List UInt8} (h:¬ (nDig l=0∨8 < nDig l∨(1 < nDig l∧l.head?=some 48))):natIntV l=.tuple #[.int .i64 (dval (l.take (nDig l)):Nat),.string ⟨(l.drop (nDig l)).toArray⟩,.bool true]:=by
 simp only [natIntV,natInt,if_neg h]
theorem nativeInt_any (s:ByteArray) (w:World) (hs:s.size≤maxLen) :
  Calls Tryz.prog 123 #[.string s] w (RetQ (natIntV s.data.toList) w):=by
 unfold maxLen at hs
 go_enter Tryz.func123,Tryz.ntmps123
 go_upto_block 0 with fail
 go_cut [5,6] (fun n i wr=>∃ k:Nat,k≤s.size∧k=min (nDig s.data.toList) 9∧i=.int .i64 k∧n=.int .i64 (dval (s.data.toList.take k):Nat)∧wr=w)
 case first =>
  go_wp2_with fail
  go_loopw [5,6] (fun n i wr=>∃ k:Nat,k≤s.size∧k≤nDig s.data.toList∧k≤9∧i=.int .i64 k∧n=.int .i64 (dval (s.data.toList.take k):Nat)∧wr=w) (fun _ i _=>s.size - (intOf i).toNat)
  case atStart=>exact ⟨0,Nat.zero_le _,Nat.zero_le _,by omega,rfl,rfl,rfl⟩
  case round =>
   obtain ⟨k,hk,hkd,hk9,rfl,rfl,rfl⟩:=hrel
   by_cases hlt:k < nDig s.data.toList∧k < 9
   ·have hks:k < s.size:=Nat.lt_of_lt_of_le hlt.1 (nDig_le _)
    have hk8:(k:Int)≤8:=by omega
    obtain ⟨hd1,hd2⟩:=(isDig_iff _).1 (isDig_of_lt s.data.toList k hlt.1 hks)
    have hd1':(48:Int)≤(s[k].toNat:Int):=by exact_mod_cast hd1
    have hd2':(s[k].toNat:Int)≤57:=by exact_mod_cast hd2
    have hv:=dval_take_lt s.data.toList k (by omega)
    have hvs:=dval_snoc (s.data.toList.take k) s[k]
    have hv9:10 ^ k≤10 ^ 8:=Nat.pow_le_pow_right (by omega) (by omega)
    have hv8:(dval (s.data.toList.take k):Int)≤100000000:=by omega
    have HV:=Lib.hid hvs
    have hlt':=hlt.1
    clear hvs hv hv9 hlt hd1 hd2
    go_wp2
    go_roundw
    case rel=>exact ⟨k+1,hks,hlt',by omega,by go_num,ret_i64 (by rw [List.take_succ_eq_append_getElem hks];have:=HV.out;have e:s.data.toList[k]=s[k]:=rfl;rw [e];omega),by trivial⟩
    case measure=>simp [intOf];omega
   ·have hK:k=min (nDig s.data.toList) 9:=by omega
    have HK:=Lib.hid hK
    clear hK
    by_cases hks:k < s.size
    ·by_cases h9:k=9
     ·subst h9
      go_wp2
      go_meet
      exact ⟨9,hk,HK.out,rfl,rfl,rfl⟩
     ·have hk8:(k:Int)≤8:=by omega
      have hkn:k=nDig s.data.toList:=by have:=HK.out;omega
      have hd:=not_isDig_at s.data.toList (by show _ < s.size;omega)
      clear hlt h9
      by_cases hd1:(48:Int)≤(s[k].toNat:Int)
      ·have hd2:¬ (s[k].toNat:Int)≤57:=fun h=>by
        subst hkn
        have:isDig s.data.toList[nDig s.data.toList]=true:=(isDig_iff _).2 ⟨by exact_mod_cast hd1,by exact_mod_cast h⟩
        rw [this] at hd;cases hd
       clear hd hkn
       go_wp2
       go_meet
       exact ⟨k,hk,HK.out,rfl,rfl,rfl⟩
      ·clear hd hkn
       go_wp2
       go_meet
       exact ⟨k,hk,HK.out,rfl,rfl,rfl⟩
    ·go_wp2
     go_meet
     exact ⟨k,hk,HK.out,rfl,rfl,rfl⟩
 case rest =>
  obtain ⟨k,hk,hkm,rfl,rfl,rfl⟩:=hcut
  have HK:=Lib.hid hkm
  clear hkm
  by_cases h0:k=0
  ·subst h0
   go_wp2
   go_ret3
   exact ⟨by rw [natIntV_none (Or.inl (by have:=HK.out;omega))];rfl,0,rfl⟩
  ·have hb0:((k:Int) == 0)=false:=by simp [h0]
   by_cases h8:8 < (k:Int)
   ·go_wp2
    go_ret3
    exact ⟨by rw [natIntV_none (Or.inr (Or.inl (by have:=HK.out;omega)))];rfl,0,rfl⟩
   ·by_cases h1:1 < (k:Int)
    ·have hs0:0 < s.size:=by omega
     by_cases hz:((s[0].toNat:Int) == 48)=true
     ·go_wp2
      go_ret3
      exact ⟨by rw [natIntV_none (Or.inr (Or.inr (by have:=HK.out;exact ⟨by omega,headq hs0 hz⟩)))];rfl,0,rfl⟩
     ·have hz':((s[0].toNat:Int) == 48)=false:=by simpa using hz
      go_wp2
      go_quiet (fail)
      go_wp2
      go_ret3
      have e:k=nDig s.data.toList:=by have:=HK.out;omega
      subst e
      exact ⟨by rw [natIntV_some (fun h=>h.elim (fun h=>h0 h) (fun h=>h.elim (fun h=>by omega) (fun h=>hz (headq' hs0 h.2)))),← extract_drop];rfl,_,rfl⟩
    ·go_wp2
     go_quiet (fail)
     go_wp2
     go_ret3
     have e:k=nDig s.data.toList:=by have:=HK.out;omega
     subst e
     exact ⟨by rw [natIntV_some (by rintro (h|h|⟨h,_⟩)<;>omega),← extract_drop];rfl,_,rfl⟩
end Go.Proofs.YthihcjgmlbnapaaGreatDoor
namespace Go.Proofs.YthihcjgmlbnapaaGreatDoor
open Go.RowKit
theorem own_lt {s own:ByteArray} (ho:own.data.toList=if s.data.toList.head?=some 45 then s.data.toList.tail else s.data.toList) (hz:s.data.toList.head?=some 45):(own.size:Int) < (s.size:Int):=by
 have h1:own.size=own.data.toList.length:=rfl
 have h2:s.size=s.data.toList.length:=rfl
 rw [h1,h2,ho,if_pos hz]
 cases h:s.data.toList with
 | nil=>rw [h] at hz;cases hz
 | cons a t=>simp only [List.tail_cons,List.length_cons];omega
theorem own_le {s own:ByteArray} (ho:own.data.toList=if s.data.toList.head?=some 45 then s.data.toList.tail else s.data.toList) (hz:¬ s.data.toList.head?=some 45):¬ (own.size:Int) < (s.size:Int):=by
 have h1:own.size=own.data.toList.length:=rfl
 have h2:s.size=s.data.toList.length:=rfl
 rw [h1,h2,ho,if_neg hz];omega
theorem nativeInt_none (s:ByteArray) (w:World) (hs:s.size≤maxLen) (h:natInt s.data.toList=none) :
  Calls Tryz.prog 123 #[.string s] w (RetQ (.tuple #[.int .i64 0,.string .empty,.bool false]) w):=by
 have:=nativeInt_any s w hs
 rw [natIntV,h] at this;exact this
theorem nativeInt_ok (s:ByteArray) (w:World) (hs:s.size≤maxLen) {n:Nat} {r:List UInt8} (h:natInt s.data.toList=some (n,r)) :
  Calls Tryz.prog 123 #[.string s] w (RetQ (.tuple #[.int .i64 n,.string ⟨r.toArray⟩,.bool true]) w):=by
 have:=nativeInt_any s w hs
 rw [natIntV,h] at this;exact this
theorem nativeInt_ok' (s:ByteArray) (w:World) (hs:s.size≤maxLen) {n:Nat} {r:List UInt8} (h:natInt s.data.toList=some (n,r)) :
  Calls Tryz.prog 123 #[.string s] w fun e w'=>∃ rs:ByteArray,Hid (rs.data.toList=r)∧e=.returned (.tuple #[.int .i64 n,.string rs,.bool true])∧∃ q,w'=w.drewN q :=
 (nativeInt_ok s w hs h).mono fun _ _ ⟨h1,h2⟩=>⟨⟨r.toArray⟩,Lib.hid (by simp),h1,h2⟩
theorem natInt_le {l:List UInt8} {n:Nat} {r:List UInt8} (h:natInt l=some (n,r)):r.length≤l.length:=by
 unfold natInt at h
 split at h
 ·cases h
 ·simp only [Option.some.injEq,Prod.mk.injEq] at h
  rw [← h.2];simp
theorem natInt_lt {l:List UInt8} {n:Nat} {r:List UInt8} (h:natInt l=some (n,r)):n < 100000000:=by
 unfold natInt at h
 split at h
 ·cases h
 ·rename_i hc
  simp only [Option.some.injEq,Prod.mk.injEq] at h
  have h1:=dval_take_lt l (nDig l) (Nat.le_refl _)
  have h2:10 ^ nDig l≤10 ^ 8:=Nat.pow_le_pow_right (by omega) (by omega)
  omega
def natOfV (l:List UInt8):Value:=match natOf l with|none=>.tuple #[.agg #[.int .i64 0,.int .i64 0],.bool false]|some (n,d)=>.tuple #[.agg #[.int .i64 n,.int .i64 d],.bool true]
theorem nativeOf_any (s:ByteArray) (w:World) (hs:s.size≤maxLen) :
  Calls Tryz.prog 64 #[.string s] w (RetB (natOfV s.data.toList) w):=by
 unfold maxLen at hs
 go_enter Tryz.func64,Tryz.ntmps64
 go_upto_region 1 with fail
 go_cut [4] (fun o wr=>o=.string s∧wr=w.alloc (.cells #[.int .i64 0,.int .i64 0] 133))
 case first =>
  go_wp2_with fail
  go_meet
  exact ⟨rfl,rfl⟩
 case rest =>
  obtain ⟨rfl,rfl⟩:=hcut
  go_step
  go_step
  go_cut [4] (fun o wr=>∃ own:ByteArray,o=.string own∧own.data.toList=(if s.data.toList.head?=some 45 then s.data.toList.tail else s.data.toList)∧wr=w.alloc (.cells #[.int .i64 0,.int .i64 0] 133))
  case first =>
   by_cases h0:s.size=0
   ·have e1:=toList_nil h0
    go_wp2_with fail
    go_meet
    exact ⟨s,rfl,by rw [data_nil h0];rfl,rfl⟩
   ·have e1:=toList_ne h0
    have e2:=toList_isEmpty h0
    have e3:0 < s.size:=by omega
    by_cases hm:((s[0].toNat:Int) == 45)=true
    ·go_wp2_with fail
     go_meet
     exact ⟨s.extract 1 s.size,rfl,by rw [extract_drop,if_pos (headq45 e3 hm)];simp,rfl⟩
    ·have hm':((s[0].toNat:Int) == 45)=false:=by simpa using hm
     go_wp2_with fail
     go_meet
     exact ⟨s,rfl,by rw [if_neg (fun h=>hm (headq45' e3 h))],rfl⟩
  case rest =>
   obtain ⟨own,rfl,hown,rfl⟩:=hcut
   have hos:own.size≤maxLen:=by
    have:own.data.toList.length≤s.data.toList.length:=by rw [hown];split<;>simp
    have e1:own.data.toList.length=own.size:=rfl
    have e2:s.data.toList.length=s.size:=rfl
    unfold maxLen;omega
   have HO:=Lib.hid hown
   clear hown
   rcases hn:natInt own.data.toList with _|⟨n,r⟩
   ·have HN:=Lib.hid hn
    have HV:Hid (natOfV s.data.toList=.tuple #[.agg #[.int .i64 0,.int .i64 0],.bool false]):=Lib.hid (by unfold natOfV;rw [natOf_own HO.out,hn])
    clear hn
    go_wp2_with (go_at_call 123;refine (nativeInt_none own _ hos HN.out).mono ?_;rintro e w' ⟨rfl,nq,rfl⟩)
    refine bodyPost_ret (v:=natOfV s.data.toList) (by rw [HV.out];simp [results,Tryz.results64,go_sem]) rfl ⟨rfl,?_⟩
    exact qbl
   ·have HN:=Lib.hid hn
    by_cases hz:s.data.toList.head?=some 45∧n=0
    ·obtain ⟨hz1,rfl⟩:=hz
     have HV:Hid (natOfV s.data.toList=.tuple #[.agg #[.int .i64 0,.int .i64 0],.bool false]):=Lib.hid (by unfold natOfV;rw [natOf_own HO.out,hn];simp [hz1])
     have hlt:=own_lt HO.out hz1
     clear hn hz1
     go_wp2_with (go_at_call 123;refine (nativeInt_ok own _ hos HN.out).mono ?_;rintro e w' ⟨rfl,nq,rfl⟩)
     refine bodyPost_ret (v:=natOfV s.data.toList) (by rw [HV.out];simp [results,Tryz.results64,go_sem]) rfl ⟨rfl,?_⟩
     exact qbl
    ·have HZ:=Lib.hid hz
     clear hn hz
     go_step
     go_step
     go_cut [5,6,7] (fun n' r' ok wr=>n'=.int .i64 n∧ok=.bool true∧(∃ rs:ByteArray,r'=.string rs∧rs.data.toList=r)∧∃ q,wr=(w.alloc (.cells #[.int .i64 0,.int .i64 0] 133)).drewN q)
     case first =>
      go_wp2_with (go_at_call 123;refine (nativeInt_ok own _ hos HN.out).mono ?_;rintro e w' ⟨rfl,nq,rfl⟩)
      go_meet
      exact ⟨rfl,rfl,⟨_,rfl,rfl⟩,_,rfl⟩
     case rest =>
      obtain ⟨rfl,rfl,⟨rs,rfl,hrs⟩,q,rfl⟩:=hcut
      have HR:=Lib.hid hrs
      clear hrs
      go_step
      go_step
      go_cut [7] (fun _ wr=>wr=(w.alloc (.cells #[.int .i64 0,.int .i64 0] 133)).drewN q)
      case first =>
       by_cases hm:s.data.toList.head?=some 45
       ·have hlt:=own_lt HO.out hm
        have h0:((n:Int) == 0)=false:=by
         have:=HZ.out;simp;intro h;exact this ⟨hm,h⟩
        clear hm
        go_wp2_with fail
        go_meet
        trivial
       ·have hlt:=own_le HO.out hm
        clear hm
        go_wp2_with fail
        go_meet
        trivial
      case rest =>
       obtain rfl:=hcut
       go_upto_region 7 with fail
       go_cut [8] (fun p wr=>p=.pointer (some ⟨w.heap.size+1,0,none⟩)∧wr=((w.alloc (.cells #[.int .i64 0,.int .i64 0] 133)).alloc (.cells #[.int .i64 n,.int .i64 1] 133)).drewN q)
       case first =>
        go_wp2_with fail
        go_meet
        exact ⟨rfl,rfl⟩
       case rest =>
        obtain ⟨rfl,rfl⟩:=hcut
        go_step
        go_step
        go_cut [6] (fun _ wr=>∃ d:Nat,natOf s.data.toList=some (if s.data.toList.head?=some 45 then -(n:Int) else n,d)∧wr.cell? ⟨w.heap.size+1,0,none⟩=some (.int .i64 n)∧wr.cell? ⟨w.heap.size+1,1,none⟩=some (.int .i64 d)∧wr.cell? ⟨w.heap.size,0,none⟩=some (.int .i64 0)∧wr.cell? ⟨w.heap.size,1,none⟩=some (.int .i64 0)∧wr.frozen? ⟨w.heap.size+1,0,none⟩=false∧wr.frozen? ⟨w.heap.size+1,1,none⟩=false∧wr.frozen? ⟨w.heap.size,0,none⟩=false∧wr.frozen? ⟨w.heap.size,1,none⟩=false∧Below w.heap.size w wr)
        case first =>
         by_cases h0:rs.size=0
         ·have e1:=toList_nil h0
          have e4:r=[]:=by rw [← HR.out];exact data_nil h0
          have HV:Hid (natOf s.data.toList=some (if s.data.toList.head?=some 45 then -(n:Int) else n,1)):=Lib.hid (by rw [natOf_own HO.out,HN.out];simp [HZ.out,e4])
          clear e4 h0
          go_wp2_with fail
          go_meet
          refine ⟨1,HV.out,?_,?_,?_,?_,?_,?_,?_,?_,qbl⟩<;>simp [go_sem]
         ·have e1:=toList_ne h0
          have e2:=toList_isEmpty h0
          have e3:0 < rs.size:=by omega
          have e4:¬ r=[]:=fun h=>h0 (by have:=HR.out;rw [h] at this;exact congrArg List.length this)
          by_cases hs:((rs[0].toNat:Int) != 47)=true
          ·have HV:Hid (natOfV s.data.toList=.tuple #[.agg #[.int .i64 0,.int .i64 0],.bool false]):=Lib.hid (by
            unfold natOfV;rw [natOf_own HO.out,HN.out]
            have:¬ r.head?=some 47:=fun h=>by rw [← HR.out] at h;have:=headqc' (c:=47) e3 h;simp at hs;exact hs (by simpa using this)
            simp [HZ.out,e4,this])
           clear e4
           go_wp2_with fail
           refine bodyPost_ret (v:=natOfV s.data.toList) (by rw [HV.out];simp [results,Tryz.results64,go_sem]) rfl ⟨rfl,?_⟩
           exact qbl
          ·have hs':((rs[0].toNat:Int) != 47)=false:=by simpa using hs
           have e5:r.head?=some 47:=by rw [← HR.out];exact headqc (c:=47) e3 (by simpa using hs)
           have hx:(rs.extract 1 rs.size).data.toList=r.tail:=by rw [extract_drop,← HR.out];simp
           have hxs:(rs.extract 1 rs.size).size≤maxLen:=by
            have e1:(rs.extract 1 rs.size).size=r.tail.length:=by rw [← hx];rfl
            have e2:=natInt_le HN.out
            have e3:own.data.toList.length=own.size:=rfl
            rw [e1];simp;omega
           rcases hd:natInt r.tail with _|⟨d,r'⟩
           ·have HV:Hid (natOfV s.data.toList=.tuple #[.agg #[.int .i64 0,.int .i64 0],.bool false]):=Lib.hid (by
             unfold natOfV;rw [natOf_own HO.out,HN.out]
             simp [HZ.out,e4,e5,hd])
            have HD:=Lib.hid hd
            have HX:=Lib.hid hx
            clear hd hx e4 e5
            go_wp2_with (go_at_call 123;refine (nativeInt_none _ _ hxs (by rw [HX.out];exact HD.out)).mono ?_;rintro e w' ⟨rfl,nq,rfl⟩)
            refine bodyPost_ret (v:=natOfV s.data.toList) (by rw [HV.out];simp [results,Tryz.results64,go_sem]) rfl ⟨rfl,?_⟩
            exact qbl
           ·have hd8:=natInt_lt hd
            have hn8:=natInt_lt HN.out
            have HD:=Lib.hid hd
            have HX:=Lib.hid hx
            clear hx
            by_cases hbad:r'≠[]∨d < 2∨Nat.gcd n d≠1
            ·have HV:Hid (natOfV s.data.toList=.tuple #[.agg #[.int .i64 0,.int .i64 0],.bool false]):=Lib.hid (by
              unfold natOfV;rw [natOf_own HO.out,HN.out]
              simp only [if_neg HZ.out,if_neg e4,e5,ne_eq,not_true,if_false,hd,if_pos hbad])
             clear hd e4 e5
             by_cases b1:r'=[]
             ·subst b1
              by_cases b2:d < 2
              ·clear hbad
               have b2':(d:Int) < 2:=by omega
               go_wp2_with (go_at_call 123;refine (nativeInt_ok' _ _ hxs (by rw [HX.out];exact HD.out)).mono ?_;rintro e w' ⟨rs',hrs',rfl,nq,rfl⟩;have e1':=toList_nil (s:=rs') (congrArg List.length hrs'.out))
               refine bodyPost_ret (v:=natOfV s.data.toList) (by rw [HV.out];simp [results,Tryz.results64,go_sem]) rfl ⟨rfl,?_⟩
               exact qbl
              ·have b3:(((Nat.gcd n d:Nat):Int) != 1)=true:=by
                rcases hbad with h|h|h
                ·exact absurd rfl h
                ·exact absurd h b2
                ·simp;omega
               have b2':¬ (d:Int) < 2:=by omega
               clear hbad
               go_wp2_with (first|(go_at_call 123;refine (nativeInt_ok' _ _ hxs (by rw [HX.out];exact HD.out)).mono ?_;rintro e w' ⟨rs',hrs',rfl,nq,rfl⟩;have e1':=toList_nil (s:=rs') (congrArg List.length hrs'.out))|(go_at_call 124;refine (gcd_any _ _ _ (by omega) (by omega)).mono ?_;rintro e w' ⟨rfl,nq',rfl⟩))
               refine bodyPost_ret (v:=natOfV s.data.toList) (by rw [HV.out];simp [results,Tryz.results64,go_sem]) rfl ⟨rfl,?_⟩
               exact qbl
             ·clear hbad
              go_wp2_with (go_at_call 123;refine (nativeInt_ok' _ _ hxs (by rw [HX.out];exact HD.out)).mono ?_;rintro e w' ⟨rs',hrs',rfl,nq,rfl⟩;have e1':=toList_ne (s:=rs') (fun h=>b1 (by rw [← hrs'.out];exact data_nil h));have e2':=toList_isEmpty (s:=rs') (fun h=>b1 (by rw [← hrs'.out];exact data_nil h)))
              refine bodyPost_ret (v:=natOfV s.data.toList) (by rw [HV.out];simp [results,Tryz.results64,go_sem]) rfl ⟨rfl,?_⟩
              exact qbl
            ·have g1:r'=[]:=Decidable.byContradiction fun h=>hbad (Or.inl h)
             have g2:¬ (d:Int) < 2:=fun h=>hbad (Or.inr (Or.inl (by omega)))
             have g3:(((Nat.gcd n d:Nat):Int) != 1)=false:=by
              have:Nat.gcd n d=1:=Decidable.byContradiction fun h=>hbad (Or.inr (Or.inr h))
              simp [this]
             have HV:Hid (natOf s.data.toList=some (if s.data.toList.head?=some 45 then -(n:Int) else n,d)):=Lib.hid (by
              rw [natOf_own HO.out,HN.out]
              simp only [if_neg HZ.out,if_neg e4,e5,ne_eq,not_true,if_false,hd,if_neg hbad])
             subst g1
             clear hd e4 e5 hbad
             go_wp2_with (first|(go_at_call 123;refine (nativeInt_ok' _ _ hxs (by rw [HX.out];exact HD.out)).mono ?_;rintro e w' ⟨rs',hrs',rfl,nq,rfl⟩;have e1':=toList_nil (s:=rs') (congrArg List.length hrs'.out))|(go_at_call 124;refine (gcd_any _ _ _ (by omega) (by omega)).mono ?_;rintro e w' ⟨rfl,nq',rfl⟩))
             go_meet
             refine ⟨d,HV.out,?_,?_,?_,?_,?_,?_,?_,?_,qbl⟩<;>simp [go_sem]
        case rest =>
         obtain ⟨d,hV,c1,c2,c3,c4,z1,z2,z3,z4,hB⟩:=hcut
         have HV:=Lib.hid hV
         clear hV
         have hn8:=natInt_lt HN.out
         have hB2:=lt_of_cell c1
         by_cases hm:s.data.toList.head?=some 45
         ·have hlt:=own_lt HO.out hm
          have HW:Hid (natOfV s.data.toList=.tuple #[.agg #[.int .i64 (-(n:Int)),.int .i64 d],.bool true]):=Lib.hid (by unfold natOfV;rw [HV.out,if_pos hm])
          clear hm
          go_wp2_with fail
          refine bodyPost_ret (v:=natOfV s.data.toList) (by rw [HW.out];simp [results,Tryz.results64,go_sem,c1,c2,c3,c4,hB2,Nat.lt_of_succ_lt hB2]) rfl ⟨rfl,?_⟩
          exact (by repeat (first|(with_reducible first|exact bw0 _ _|exact hB|refine bw1 ?_ ?_ _|refine bw2 ?_ _|refine bw3 ?_|refine bw4 ?_ _|refine bw5 (by assumption) ?_)|exact Nat.le_refl _|(focus (simp;done))|(focus (simp;omega))|omega))
         ·have hlt:=own_le HO.out hm
          have HW:Hid (natOfV s.data.toList=.tuple #[.agg #[.int .i64 n,.int .i64 d],.bool true]):=Lib.hid (by unfold natOfV;rw [HV.out,if_neg hm])
          clear hm
          go_wp2_with fail
          refine bodyPost_ret (v:=natOfV s.data.toList) (by rw [HW.out];simp [results,Tryz.results64,go_sem,c1,c2,c3,c4,hB2,Nat.lt_of_succ_lt hB2]) rfl ⟨rfl,?_⟩
          exact (by repeat (first|(with_reducible first|exact bw0 _ _|exact hB|refine bw1 ?_ ?_ _|refine bw2 ?_ _|refine bw3 ?_|refine bw4 ?_ _|refine bw5 (by assumption) ?_)|exact Nat.le_refl _|(focus (simp;done))|(focus (simp;omega))|omega))
end Go.Proofs.YthihcjgmlbnapaaGreatDoor
