/- Joined texts: Txt, Base, RatTxt, CutTxt, IntTxt, PlanTxt. -/
import Derived.Lib.ItoaNum
import Derived.Lib.Strings
import Derived.Test.YteepphiomcedfaaGreatDoorProg
import Derived.Test.YteepphiomcedfaaGreatDoorShelf
import Derived.WalkKit
import Derived.WalkSpells
import Derived.WalkLawsBesides
import Derived.WalkSmall
import Derived.Deep.QuietTactic
import Derived.BigQuiet
import Derived.Outline
import Derived.Deep.DeepCutAuto
import Derived.Deep.CutBlock
import Derived.Lib.Hide
import Derived.Lib.ItoaLen
import Derived.Shelf.Strings.SlTrimAscii
import Derived.Lib.IndexMore
import Derived.Lib.AtoiAll
import Derived.Lib.SlTrimSet
set_option maxRecDepth 100000
set_option linter.unusedVariables false
set_option linter.unusedSimpArgs false
set_option maxHeartbeats 6400000
namespace Go.Proofs.YteepphiomcedfaaGreatDoor
def isDig (c : UInt8) : Bool := decide (48 ≤ c.toNat) && decide (c.toNat ≤ 57)
def nDig (l : List UInt8) : Nat := (l.takeWhile isDig).length
def dval (l : List UInt8) : Nat := l.foldl (fun a c => 10 * a + (c.toNat - 48)) 0
theorem dval_snoc (l : List UInt8) (c : UInt8) : dval (l ++ [c]) = 10 * dval l + (c.toNat - 48) := by simp [dval]
theorem nDig_le (l : List UInt8) : nDig l ≤ l.length := (List.takeWhile_sublist isDig).length_le
theorem takeWhile_all (l : List UInt8) : ∀ x ∈ l.takeWhile isDig, isDig x = true := by
 induction l with
 | nil => simp
 | cons c r ih =>
  intro x hx
  by_cases hc : isDig c = true
  ·simp [hc] at hx
   rcases hx with rfl | hx
   ·exact hc
   ·exact ih x hx
  ·simp [hc] at hx
theorem isDig_of_lt (l : List UInt8) (k : Nat) (h : k < nDig l) (hk : k < l.length) : isDig l[k] = true := by
 have h1 : ∀ x ∈ l.takeWhile isDig, isDig x = true := takeWhile_all l
 have h2 : l[k] = (l.takeWhile isDig)[k]'h := by
  have := List.takeWhile_prefix isDig (l := l)
  exact (this.getElem h).symm
 rw [h2]; exact h1 _ (List.getElem_mem h)
theorem not_isDig_at (l : List UInt8) (hk : nDig l < l.length) : isDig l[nDig l] = false := by
 induction l with
 | nil => simp at hk
 | cons c r ih =>
  by_cases hc : isDig c = true
  ·have e : nDig (c :: r) = nDig r + 1 := by simp [nDig, hc]
   simp only [e, List.getElem_cons_succ]
   exact ih (by simp [e] at hk; exact hk)
  ·have e : nDig (c :: r) = 0 := by simp [nDig, hc]
   simp only [e, List.getElem_cons_zero]; simpa using hc
theorem isDig_iff (c : UInt8) : isDig c = true ↔ 48 ≤ c.toNat ∧ c.toNat ≤ 57 := by simp [isDig]
theorem dval_take_lt (l : List UInt8) : ∀ k, k ≤ nDig l → dval (l.take k) < 10 ^ k
 | 0, _ => by simp [dval]
 | k + 1, h => by
  have hl : k < l.length := Nat.lt_of_lt_of_le h (nDig_le l)
  have ih := dval_take_lt l k (by omega)
  have hd := (isDig_iff _).1 (isDig_of_lt l k h hl)
  rw [List.take_succ_eq_append_getElem hl, dval_snoc, Nat.pow_succ]
  omega
def natInt (l : List UInt8) : Option (Nat × List UInt8) :=
 if nDig l = 0 ∨ 8 < nDig l ∨ (1 < nDig l ∧ l.head? = some 48) then none else some (dval (l.take (nDig l)), l.drop (nDig l))
def natOf (l : List UInt8) : Option (Int × Nat) :=
 match natInt (if l.head? = some 45 then l.tail else l) with
 | none => none
 | some (n, rest) =>
  if l.head? = some 45 ∧ n = 0 then none else
  if rest = [] then some (if l.head? = some 45 then -(n : Int) else n, 1) else
  if rest.head? ≠ some 47 then none else
  match natInt rest.tail with
  | none => none
  | some (d, r) => if r ≠ [] ∨ d < 2 ∨ Nat.gcd n d ≠ 1 then none else some (if l.head? = some 45 then -(n : Int) else n, d)
theorem natOf_own {l own : List UInt8} (h : own = if l.head? = some 45 then l.tail else l) : natOf l = match natInt own with
 | none => none
 | some (n, rest) =>
  if l.head? = some 45 ∧ n = 0 then none else
  if rest = [] then some (if l.head? = some 45 then -(n : Int) else n, 1) else
  if rest.head? ≠ some 47 then none else
  match natInt rest.tail with
  | none => none
  | some (d, r) => if r ≠ [] ∨ d < 2 ∨ Nat.gcd n d ≠ 1 then none else some (if l.head? = some 45 then -(n : Int) else n, d) := by
 subst h; rfl
end Go.Proofs.YteepphiomcedfaaGreatDoor
namespace Go.Proofs.YteepphiomcedfaaGreatDoor
open Go.RowKit
def RetQ (v : Value) (w : World) (e : Ending) (w' : World) : Prop := e = .returned v ∧ ∃ n, w' = w.drewN n
def RetB (v : Value) (w : World) (e : Ending) (w' : World) : Prop := e = .returned v ∧ Below w.heap.size w w'
def RetS (l : List UInt8) (w : World) (e : Ending) (w' : World) : Prop := ∃ s : ByteArray, s.data.toList = l ∧ e = .returned (.string s) ∧ Below w.heap.size w w'
theorem drewN_add (w : World) (a b : Nat) : (w.drewN a).drewN b = w.drewN (a + b) := by simp [World.drewN, Nat.add_assoc]
theorem below_drewN {B : Nat} {a w : World} (h : Below B a w) (n : Nat) : Below B a (w.drewN n) := ⟨h.os, h.tape, h.output, h.size, h.block⟩
theorem below_grow {B : Nat} {a w : World} (h : Below B a w) (hB : B ≤ w.heap.size) (os : Array Obj) : Below B a (Go.Sort.grow w os) :=
 h.trans ⟨rfl, rfl, rfl, by simp [Go.Sort.grow], fun k hk => Go.Sort.heap_grow_old _ _ (by omega)⟩
theorem below_alloc {w X : World} (h : Below w.heap.size w X) (o : Obj) : Below w.heap.size w (X.alloc o) := h.alloc h.size o
theorem below_trans' {w X Y : World} (h : Below w.heap.size w X) (k : Below X.heap.size X Y) : Below w.heap.size w Y := h.trans (k.mono h.size)
theorem below_trans'' {w X Y : World} (k : Below X.heap.size X Y) (h : Below w.heap.size w X) : Below w.heap.size w Y := below_trans' h k
theorem bw0 (B : Nat) (w : World) : Below B w w := Below.refl B w
theorem bw1 {B : Nat} {a w : World} (h : Below B a w) {p : Addr} (hp : B ≤ p.block) (u : Value) : Below B a (w.setCell p u) := Below.setCell h hp u
theorem bw2 {B : Nat} {a w : World} (h : Below B a w) (n : Nat) : Below B a (w.drewN n) := below_drewN h n
theorem bw3 {B : Nat} {a w : World} (h : Below B a w) : Below B a w.drew := Below.drew h
theorem bw4 {w X : World} (h : Below w.heap.size w X) (o : Obj) : Below w.heap.size w (X.alloc o) := below_alloc h o
theorem bw5 {w X Y : World} (k : Below X.heap.size X Y) (h : Below w.heap.size w X) : Below w.heap.size w Y := below_trans'' k h
theorem bw7 {α : Type _} (l : List α) (i : Nat) (a : α) : l.toArray.setIfInBounds i a = (l.set i a).toArray := List.setIfInBounds_toArray l i a
theorem bw8 {α : Type _} {x : α} {xs : List α} {a : α} : (x :: xs).set 0 a = a :: xs := List.set_cons_zero
theorem bw9 {α : Type _} {x : α} {xs : List α} {i : Nat} {a : α} : (x :: xs).set (i + 1) a = x :: xs.set i a := List.set_cons_succ
theorem qbl {p : Prop} (h : p := by repeat (first | (with_reducible first | exact Below.refl _ _ | refine Below.setCell ?_ ?_ _ | refine below_drewN ?_ _ | refine Below.drew ?_ | refine below_alloc ?_ _ | refine below_trans'' (by assumption) ?_) | exact Nat.le_refl _ | (focus (simp; done)) | (focus (simp; omega)) | omega)) : p := h
theorem ret_i64 {a b:Int} (h:a=b):Value.int .i64 a=.int .i64 b:=by rw [h]
theorem RetQ.b {v:Value} {w:World} {e:Ending} {w':World} (h:RetQ v w e w'):RetB v w e w':=by
 obtain ⟨h1,n,rfl⟩:=h
 exact ⟨h1,bw2 (bw0 _ _) _⟩
theorem bcell {W w1:World} (hb:Below W.heap.size W w1):(∀ b o,b < W.heap.size→w1.cell? ⟨b,o,none⟩=W.cell? ⟨b,o,none⟩)∧(∀ b o,b < W.heap.size→w1.frozen? ⟨b,o,none⟩=W.frozen? ⟨b,o,none⟩) :=
 ⟨fun b o h=>hb.cell (p:=⟨b,o,none⟩) h,fun b o h=>hb.frozen (p:=⟨b,o,none⟩) h⟩
theorem lt_of_cell {w:World} {b o:Nat} {v:Value} (h:w.cell? ⟨b,o,none⟩=some v):b < w.heap.size:=by
 by_cases hb:b < w.heap.size
 ·exact hb
 ·simp [World.cell?,Array.getElem?_eq_none (Nat.not_lt.1 hb)] at h
theorem keep {W W':World} {b o:Nat} {v:Value} (hB:Below W.heap.size W W') (h:W.cell? ⟨b,o,none⟩=some v):W'.cell? ⟨b,o,none⟩=some v:=(hB.cell (p:=⟨b,o,none⟩) (lt_of_cell h)).trans h
theorem keepf {W W':World} {b o:Nat} {v:Value} (hB:Below W.heap.size W W') (h:W.cell? ⟨b,o,none⟩=some v) {c:Bool} (hf:W.frozen? ⟨b,o,none⟩=c):W'.frozen? ⟨b,o,none⟩=c:=(hB.frozen (p:=⟨b,o,none⟩) (lt_of_cell h)).trans hf
theorem extract_drop (s:ByteArray) (k:Nat):s.extract k s.size=⟨(s.data.toList.drop k).toArray⟩:=by
 apply ByteArray.ext
 apply Array.toList_inj.1
 rw [ByteArray.data_extract,Array.toList_extract]
 simp
 rw [List.take_of_length_le];simp
theorem headqc {c:UInt8} {s:ByteArray} (h0:0 < s.size) (h:((s[0].toNat:Int) == (c.toNat:Int))=true):s.data.toList.head?=some c:=by
 have h1:s[0].toNat=c.toNat:=by have:=eq_of_beq h;omega
 have h2:s[0]=c:=UInt8.toNat_inj.1 h1
 rw [List.head?_eq_getElem?,List.getElem?_eq_getElem (by exact h0)]
 exact congrArg some h2
theorem headqc' {c:UInt8} {s:ByteArray} (h0:0 < s.size) (h:s.data.toList.head?=some c):((s[0].toNat:Int) == (c.toNat:Int))=true:=by
 rw [List.head?_eq_getElem?,List.getElem?_eq_getElem (by exact h0)] at h
 have h2:s[0]=c:=Option.some.inj h
 rw [h2];simp
theorem headq {s:ByteArray} (h0:0 < s.size) (h:((s[0].toNat:Int) == 48)=true):s.data.toList.head?=some 48:=headqc (c:=48) h0 h
theorem headq' {s:ByteArray} (h0:0 < s.size) (h:s.data.toList.head?=some 48):((s[0].toNat:Int) == 48)=true:=headqc' (c:=48) h0 h
theorem headq45 {s:ByteArray} (h0:0 < s.size) (h:((s[0].toNat:Int) == 45)=true):s.data.toList.head?=some 45:=headqc (c:=45) h0 h
theorem headq45' {s:ByteArray} (h0:0 < s.size) (h:s.data.toList.head?=some 45):((s[0].toNat:Int) == 45)=true:=headqc' (c:=45) h0 h
theorem toList_nil {s:ByteArray} (h:s.size=0):s.toList=[]:=by
 rw [Lib.toList_data,← List.length_eq_zero_iff];exact h
theorem toList_ne {s:ByteArray} (h:¬ s.size=0):¬ s.toList=[]:=by
 rw [Lib.toList_data,← List.length_eq_zero_iff];exact h
theorem toList_isEmpty {s:ByteArray} (h:¬ s.size=0):s.toList.isEmpty=false:=by
 have:=toList_ne h
 cases hs:s.toList with
 | nil=>exact absurd hs this
 | cons a l=>rfl
theorem data_nil {s:ByteArray} (h:s.size=0):s.data.toList=[]:=by
 rw [← List.length_eq_zero_iff];exact h
def Glo (w : World) : Prop := Lib.TabIs Tryz.prog w "internal/strconv.uint64pow10" .u64 Lib.pow10Tab ∧ (∃ m, w.cell? ⟨3, 0, none⟩ = some (.int .i64 m)) ∧ 12 ≤ w.heap.size
theorem Glo.below {w w':World} (h:Glo w) (hb:Below w.heap.size w w'):Glo w':=by
 obtain ⟨h1,⟨m,h2⟩,h3⟩:=h
 refine ⟨?_,⟨m,(hb.cell (p:=⟨3,0,none⟩) (show 3 < _ by omega)).trans h2⟩,Nat.le_trans h3 hb.size⟩
 exact var?_below (g:=2) hb (by kernel_rfl) (by omega) h1
theorem keep3 {w W W':World} {b0 o0 b1 o1 b2 o2:Nat} {v0 v1 v2:Value} (h:World.cell? W ⟨b0,o0,none⟩=some v0∧World.cell? W ⟨b1,o1,none⟩=some v1∧World.cell? W ⟨b2,o2,none⟩=some v2∧Below w.heap.size w W) (hB:Below W.heap.size W W'):World.cell? W' ⟨b0,o0,none⟩=some v0∧World.cell? W' ⟨b1,o1,none⟩=some v1∧World.cell? W' ⟨b2,o2,none⟩=some v2∧Below w.heap.size w W':=⟨keep hB h.1,keep hB h.2.1,keep hB h.2.2.1,below_trans' h.2.2.2 hB⟩
theorem glo3 {w W:World} {b0 o0 b1 o1 b2 o2:Nat} {v0 v1 v2:Value} (hG:Glo w) (h:World.cell? W ⟨b0,o0,none⟩=some v0∧World.cell? W ⟨b1,o1,none⟩=some v1∧World.cell? W ⟨b2,o2,none⟩=some v2∧Below w.heap.size w W):Glo W:=hG.below h.2.2.2
theorem keep4 {w W W':World} {b0 o0 b1 o1 b2 o2 b3 o3:Nat} {v0 v1 v2 v3:Value} (h:World.cell? W ⟨b0,o0,none⟩=some v0∧World.cell? W ⟨b1,o1,none⟩=some v1∧World.cell? W ⟨b2,o2,none⟩=some v2∧World.cell? W ⟨b3,o3,none⟩=some v3∧Below w.heap.size w W) (hB:Below W.heap.size W W'):World.cell? W' ⟨b0,o0,none⟩=some v0∧World.cell? W' ⟨b1,o1,none⟩=some v1∧World.cell? W' ⟨b2,o2,none⟩=some v2∧World.cell? W' ⟨b3,o3,none⟩=some v3∧Below w.heap.size w W':=⟨keep hB h.1,keep hB h.2.1,keep hB h.2.2.1,keep hB h.2.2.2.1,below_trans' h.2.2.2.2 hB⟩
theorem glo4 {w W:World} {b0 o0 b1 o1 b2 o2 b3 o3:Nat} {v0 v1 v2 v3:Value} (hG:Glo w) (h:World.cell? W ⟨b0,o0,none⟩=some v0∧World.cell? W ⟨b1,o1,none⟩=some v1∧World.cell? W ⟨b2,o2,none⟩=some v2∧World.cell? W ⟨b3,o3,none⟩=some v3∧Below w.heap.size w W):Glo W:=hG.below h.2.2.2.2
theorem itoa_any (n:Int) (h0 : -9223372036854775808≤n) (h1:n≤9223372036854775807) (w:World) (hG:Glo w) :
  Calls Tryz.prog 81 #[.int .i64 n] w (RetS (Lib.itoa n) w) :=
 (Tryz.strconv_Itoa n h0 h1 w hG.1).mono fun e w' ⟨he,k,os,hw⟩=>⟨_,by simp,he,by rw [hw];exact below_grow (bw2 (bw0 _ _) _) (Nat.le_refl _) _⟩
theorem below_bytesWorld (w:World) (e:TypeId) (t:ByteArray):Below w.heap.size w (Lib.bytesWorld w e t):=by
 unfold Lib.bytesWorld
 have h1:Below w.heap.size w (w.drew.alloc (.cells (Lib.bytesCells w e t) e)):=bw4 (bw0 _ _).drew _
 refine h1.trans ?_
 unfold World.freeze
 rw [if_neg (by omega)]
 refine ⟨rfl,rfl,rfl,by simp,fun k hk=>?_⟩
 simp only [Array.getElem?_modify]
 rw [if_neg (by omega)]
theorem cut_any (s sep:ByteArray) (w:World) (hG:Glo w) (hs:s.size < 4294967281) {a b:List UInt8} {c:Bool} (h:Lib.cut s.data.toList sep.data.toList=(a,b,c)) :
  Calls Tryz.prog 191 #[.string s,.string sep] w fun e w'=>∃ a' b':ByteArray,Hid (a'.data.toList=a)∧Hid (b'.data.toList=b)∧e=.returned (.tuple #[.string a',.string b',.bool c])∧∃ n,w'=w.drewN n:=by
 obtain ⟨m,hm⟩:=hG.2.1
 have:=Tryz.strings_Cut s sep m w hs hm
 rw [h] at this
 exact this.mono fun e w' ⟨h1,h2⟩=>⟨⟨a.toArray⟩,⟨b.toArray⟩,Lib.hid (by simp),Lib.hid (by simp),h1,h2⟩
theorem cutPrefix_any (s p:ByteArray) (w:World) {a:List UInt8} {c:Bool} (h:Lib.trimPrefix s.data.toList p.data.toList=a) (hc:Lib.hasPrefix s.data.toList p.data.toList=c) :
  Calls Tryz.prog 188 #[.string s,.string p] w fun e w'=>∃ a':ByteArray,Hid (a'.data.toList=a)∧e=.returned (.tuple #[.string a',.bool c])∧w=w':=by
 subst h;subst hc
 exact (Tryz.strings_CutPrefix s p w).mono fun e w' ⟨h1,h2⟩=>⟨_,Lib.hid (by simp),h1,h2.symm⟩
theorem trimPrefix_any (s p:ByteArray) (w:World) {a:List UInt8} (h:Lib.trimPrefix s.data.toList p.data.toList=a) :
  Calls Tryz.prog 137 #[.string s,.string p] w fun e w'=>∃ a':ByteArray,Hid (a'.data.toList=a)∧e=.returned (.string a')∧w=w':=by
 subst h
 exact (Tryz.strings_TrimPrefix s p w).mono fun e w' ⟨h1,h2⟩=>⟨_,Lib.hid (by simp),h1,h2.symm⟩
theorem trimDigits_any (s:ByteArray) (w:World) (hs:s.size≤9223372036854775807) {l:List UInt8} (h:Lib.trimS s.data.toList [48,49,50,51,52,53,54,55,56,57]=l) :
  Calls Tryz.prog 239 #[.string s,.string ⟨#[48,49,50,51,52,53,54,55,56,57]⟩] w fun e w'=>∃ a':ByteArray,Hid (a'.data.toList=l)∧e=.returned (.string a')∧Below w.heap.size w w':=by
 subst h
 exact (Any.strings_Trim_laid Tryz.lays160 (by kernel_rfl) s ⟨#[48,49,50,51,52,53,54,55,56,57]⟩ w hs (by decide) (ascii_of_all (by decide))).mono fun e w' ⟨h1,h2⟩=>⟨_,Lib.hid (by simp),h1,h2⟩
theorem atoi_any (s:ByteArray) (w:World) (hs:s.size≤1000) {v:Int} (h:Lib.atoiAll s.data.toList=.ok v) :
  Calls Tryz.prog 104 #[.string s] w (RetB (.tuple #[.int .i64 v,.nilIface]) w) :=
 (Tryz.strconv_Atoi_ok s (by omega) v h w).mono fun e w' ⟨h1,h2⟩=>⟨h1,by
  rcases h2 with rfl|⟨t,rfl⟩
  ·exact bw0 _ _
  ·exact below_bytesWorld _ _ _⟩
end Go.Proofs.YteepphiomcedfaaGreatDoor
namespace Go.Proofs.YteepphiomcedfaaGreatDoor
open Go
theorem decDigits_isDig (n:Nat):∀ c ∈ Lib.decDigits n,isDig c=true:=by
 induction n using Nat.strongRecOn with
 | _ n ih =>
  intro c hc
  have key:∀ k,k < 10→isDig (UInt8.ofNat (48+k))=true:=by decide
  rw [Lib.decDigits] at hc
  split at hc
  ·rename_i hn;rw [List.mem_singleton] at hc;subst hc;exact key _ hn
  ·rename_i hn;rw [List.mem_append] at hc
   rcases hc with hc|hc
   ·exact ih _ (by omega) c hc
   ·rw [List.mem_singleton] at hc;subst hc;exact key _ (Nat.mod_lt _ (by omega))
theorem decDigits_ne (n:Nat):Lib.decDigits n≠[]:=by
 rw [Lib.decDigits];split<;>simp
theorem dval_decDigits (n:Nat):dval (Lib.decDigits n)=n:=by
 induction n using Nat.strongRecOn with
 | _ n ih =>
  have key:∀ k,k < 10→(UInt8.ofNat (48+k)).toNat - 48=k:=by decide
  rw [Lib.decDigits]
  split
  ·rename_i h;have:=key n h;simp only [dval,List.foldl_cons,List.foldl_nil];omega
  ·rw [dval_snoc,ih _ (by omega),key _ (Nat.mod_lt _ (by omega))];omega
theorem nDig_append {l r:List UInt8} (hl:∀ c ∈ l,isDig c=true) (hr:r=[]∨∃ c t,r=c::t∧isDig c=false):nDig (l++r)=l.length:=by
 induction l with
 | nil =>
  rcases hr with rfl|⟨c,t,rfl,hc⟩
  ·rfl
  ·simp [nDig,hc]
 | cons a l ih =>
  have ha:=hl a (by simp)
  have:=ih (fun c hc=>hl c (by simp [hc]))
  simp only [nDig,List.cons_append,List.takeWhile_cons,ha,if_true,List.length_cons] at this ⊢
  omega
theorem nDigits_le8 {n:Nat} (h:n < 100000000):Lib.nDigits n≤8:=by
 refine Nat.le_of_not_lt fun hc=>?_
 have h1:10 ^ 8≤n:=by
  have:∀ k m,k < Lib.nDigits m→1≤k→10 ^ k≤m:=by
   intro k
   induction k with
   | zero=>intro m _ h;omega
   | succ k ih =>
    intro m hm _
    by_cases hs:m < 10
    ·rw [Lib.nDigits_small hs] at hm;omega
    ·rw [Lib.nDigits_big hs] at hm
     by_cases hk:1≤k
     ·have:=ih (m / 10) (by omega) hk
      rw [Nat.pow_succ];omega
     ·have:k=0:=by omega
      subst this;omega
  exact this 8 n hc (by omega)
 omega
theorem decDigits_head (n:Nat) (h:1 < (Lib.decDigits n).length):(Lib.decDigits n).head?≠some 48:=by
 induction n using Nat.strongRecOn with
 | _ n ih =>
  have key:∀ k,k < 10→0 < k→(UInt8.ofNat (48+k))≠48:=by decide
  rw [Lib.decDigits] at h ⊢
  split at h
  ·simp at h
  ·rename_i hn
   rw [dif_neg hn]
   by_cases h1:1 < (Lib.decDigits (n / 10)).length
   ·have:=ih (n / 10) (by omega) h1
    cases hd:Lib.decDigits (n / 10) with
    | nil=>exact absurd hd (decDigits_ne _)
    | cons a t=>rw [hd] at this;simpa using this
   ·have hs:n / 10 < 10:=by
     refine Decidable.byContradiction fun hc=>h1 ?_
     rw [Lib.decDigits,dif_neg hc]
     have:=List.length_pos_iff.2 (decDigits_ne (n / 10 / 10))
     simp;omega
    rw [Lib.decDigits,dif_pos hs]
    simpa using key _ hs (by omega)
theorem natInt_decDigits {n:Nat} {r:List UInt8} (h:n < 100000000) (hr:r=[]∨∃ c t,r=c::t∧isDig c=false):natInt (Lib.decDigits n++r)=some (n,r):=by
 have e:=nDig_append (decDigits_isDig n) hr
 have l8:(Lib.decDigits n).length≤8:=by rw [Lib.decDigits_length];exact nDigits_le8 h
 have l0:(Lib.decDigits n).length≠0:=fun h=>decDigits_ne n (List.length_eq_zero_iff.1 h)
 unfold natInt
 rw [e,if_neg]
 ·simp [dval_decDigits]
 ·rintro (h|h|⟨h1,h2⟩)
  ·exact l0 h
  ·omega
  ·have:=decDigits_head n h1
   cases hd:Lib.decDigits n with
   | nil=>exact decDigits_ne _ hd
   | cons a t=>rw [hd] at h2 this;simp at h2 this;exact this h2
def ratText (q:Rat):List UInt8:=if q.den=1 then Lib.itoa q.num else Lib.itoa q.num++47::Lib.decDigits q.den
def Small (q:Rat):Prop:=q.num.natAbs < 100000000∧q.den < 100000000
theorem itoa_cases (n:Int):(n < 0∧Lib.itoa n=45::Lib.decDigits n.natAbs)∨(0≤n∧Lib.itoa n=Lib.decDigits n.natAbs):=by
 unfold Lib.itoa
 by_cases h:n < 0
 ·exact Or.inl ⟨h,if_pos h⟩
 ·exact Or.inr ⟨by omega,by rw [if_neg h];congr 1;omega⟩
theorem decDigits_no45 (n:Nat) (r:List UInt8):(Lib.decDigits n++r).head?≠some 45:=by
 have h1:=decDigits_isDig n
 cases hd:Lib.decDigits n with
 | nil=>exact absurd hd (decDigits_ne _)
 | cons a t =>
  rw [hd] at h1
  have:=h1 a (by simp)
  intro h
  simp at h
  subst h
  revert this;decide
theorem natOf_dec {n:Int} {d:Nat} {r:List UInt8} (hn:n.natAbs < 100000000) (hr:(r=[]∧d=1)∨(r=47::Lib.decDigits d∧2≤d∧d < 100000000∧Nat.gcd n.natAbs d=1)):natOf (Lib.itoa n++r)=some (n,d):=by
 have hr':r=[]∨∃ c t,r=c::t∧isDig c=false:=by
  rcases hr with ⟨h,_⟩|⟨h,_⟩
  ·exact Or.inl h
  ·exact Or.inr ⟨_,_,h,by decide⟩
 have hi:=natInt_decDigits hn hr'
 rcases itoa_cases n with ⟨h0,h⟩|⟨h0,h⟩
 ·rw [natOf_own (own:=Lib.decDigits n.natAbs++r) (by rw [h];simp),hi]
  rcases hr with ⟨rfl,rfl⟩|⟨rfl,h2,h3,h4⟩
  ·simp [h];omega
  ·have hd:=natInt_decDigits (r:=[]) h3 (Or.inl rfl)
   rw [List.append_nil] at hd
   simp only [h,List.cons_append,List.head?_cons,List.tail_cons,hd]
   rw [if_neg (by omega),if_neg (by simp),if_neg (by simp),if_neg (by simp [h4];omega),if_pos trivial]
   congr 2;omega
 ·have hm:=decDigits_no45 n.natAbs r
  rw [natOf_own (own:=Lib.decDigits n.natAbs++r) (by rw [h,if_neg hm]),hi]
  rw [← h] at hm
  rcases hr with ⟨rfl,rfl⟩|⟨rfl,h2,h3,h4⟩
  ·simp only []
   rw [if_neg (fun hc=>hm hc.1),if_pos trivial,if_neg hm]
   congr 2;omega
  ·have hd:=natInt_decDigits (r:=[]) h3 (Or.inl rfl)
   rw [List.append_nil] at hd
   simp only [List.head?_cons,List.tail_cons,hd]
   rw [if_neg (fun hc=>hm hc.1),if_neg (by simp),if_neg (by simp),if_neg (by simp [h4];omega),if_neg hm]
   congr 2;omega
theorem natOf_ratText {q:Rat} (h:Small q):natOf (ratText q)=some (q.num,q.den):=by
 unfold ratText
 split
 ·rename_i h1
  have:=natOf_dec (n:=q.num) (d:=1) (r:=[]) h.1 (Or.inl ⟨rfl,rfl⟩)
  rw [List.append_nil] at this
  rw [this,h1]
 ·rename_i h1
  have:=q.den_pos
  exact natOf_dec h.1 (Or.inr ⟨rfl,by omega,h.2,q.reduced⟩)
theorem divInt_parts (n d:Int) (hd:0 < d):∃ a b:Int,∃ g:Nat,g=Int.gcd (max n (-n)) d∧0 < g∧n=a * g∧d=b * g∧0 < b∧(Rat.divInt n d).num=a∧((Rat.divInt n d).den:Int)=b∧n.tdiv g=a∧d.tdiv g=b:=by
 have e:Int.gcd (max n (-n)) d=Int.gcd n d:=by
  simp only [Int.gcd];congr 1;omega
 have g0:0 < Int.gcd n d:=Int.gcd_pos_of_ne_zero_right _ (by omega)
 obtain ⟨a,ha⟩:=Int.gcd_dvd_left n d
 obtain ⟨b,hb⟩:=Int.gcd_dvd_right n d
 have hn:(Rat.divInt n d).num=n / (Int.gcd n d:Int):=by rw [Rat.num_divInt,Int.sign_eq_one_of_pos hd,Int.one_mul,Int.gcd_comm]
 have hdn:(Rat.divInt n d).den=d.natAbs / Int.gcd n d:=by rw [Rat.den_divInt,if_neg (by omega),Int.gcd_comm]
 rw [e]
 generalize Int.gcd n d=G at *
 have gz:(0:Int) < (G:Int):=by omega
 have hb0:0 < b:=by
  rw [hb] at hd
  exact Int.pos_of_mul_pos_right hd gz
 refine ⟨a,b,G,rfl,g0,by rw [Int.mul_comm];exact ha,by rw [Int.mul_comm];exact hb,hb0,?_,?_,?_,?_⟩
 ·rw [hn];exact Int.ediv_eq_of_eq_mul_right (by omega) ha
 ·rw [hdn]
  have:d.natAbs=G * b.natAbs:=by rw [hb,Int.natAbs_mul];rfl
  rw [this,Nat.mul_div_cancel_left _ g0];omega
 ·rw [ha];exact Int.mul_tdiv_cancel_left _ (by omega)
 ·rw [hb];exact Int.mul_tdiv_cancel_left _ (by omega)
end Go.Proofs.YteepphiomcedfaaGreatDoor
/- Plain: what cutting a valid number gives. -/
namespace Go.Proofs.YteepphiomcedfaaGreatDoor
open Go
/-- rational.digits -/
def digs (l:List UInt8):Nat:=if 1 < nDig l∧l.head?=some 48 then 0 else nDig l
theorem digs_dec (n:Nat):digs (Lib.decDigits n)=(Lib.decDigits n).length:=by
  have e:=nDig_append (l:=Lib.decDigits n) (r:=[]) (decDigits_isDig n) (Or.inl rfl)
  rw [List.append_nil] at e
  unfold digs
  rw [e,if_neg (fun h=>decDigits_head n h.1 h.2)]
theorem index_append (a r:List UInt8) (h:∀ c ∈ a,c≠47):Lib.index (a++47::r) [47]=a.length:=by
  induction a with
  | nil=>simp [Lib.index]
  | cons c a ih =>
    have hc:=h c (by simp)
    have:=ih (fun c hc=>h c (by simp [hc]))
    simp only [List.cons_append,Lib.index,List.isPrefixOf,this,List.length_cons]
    rw [if_neg (by simpa using hc.symm),if_neg (by simp;try omega)]
    omega
theorem index_none (a:List UInt8) (h:∀ c ∈ a,c≠47):Lib.index a [47]=-1:=by
  induction a with
  | nil=>simp [Lib.index]
  | cons c a ih =>
    have hc:=h c (by simp)
    have:=ih (fun c hc=>h c (by simp [hc]))
    simp only [Lib.index,List.isPrefixOf,this]
    rw [if_neg (by simpa using hc.symm),if_pos (by simp)]
theorem itoa_no47 (n:Int):∀ c ∈ Lib.itoa n,c≠47:=by
  intro c hc
  have hd:∀ c,isDig c=true→c≠47:=fun c h e=>by subst e;exact absurd h (by decide)
  rcases itoa_cases n with ⟨_,e⟩|⟨_,e⟩
  · rw [e,List.mem_cons] at hc
    rcases hc with rfl|hc
    · decide
    · exact hd c (decDigits_isDig _ c hc)
  · rw [e] at hc
    exact hd c (decDigits_isDig _ c hc)
theorem cut_itoa (n:Int):Lib.cut (Lib.itoa n) [47]=(Lib.itoa n,[],false):=by
  unfold Lib.cut
  rw [index_none _ (itoa_no47 n),if_neg (by omega)]
theorem cut_frac (n:Int) (r:List UInt8):Lib.cut (Lib.itoa n++47::r) [47]=(Lib.itoa n,r,true):=by
  unfold Lib.cut
  rw [index_append _ _ (itoa_no47 n),if_pos (by omega)]
  simp
/-- the sign of a text -/
theorem trim_itoa (n:Int):Lib.trimPrefix (Lib.itoa n) [45]=Lib.decDigits n.natAbs∧(Lib.hasPrefix (Lib.itoa n) [45]=true→0 < n.natAbs):=by
  rcases itoa_cases n with ⟨h,e⟩|⟨h,e⟩
  · rw [e]
    exact ⟨by simp [Lib.trimPrefix,Lib.hasPrefix],fun _=>by omega⟩
  · rw [e]
    have h1:=decDigits_no45 n.natAbs []
    rw [List.append_nil] at h1
    have h2:Lib.hasPrefix (Lib.decDigits n.natAbs) [45]=false:=by
      cases hd:Lib.decDigits n.natAbs with
      | nil=>rfl
      | cons a t =>
        rw [hd] at h1
        simp only [Lib.hasPrefix,List.isPrefixOf,Bool.and_true]
        simpa using fun e=>h1 (by simp [← e])
    exact ⟨by simp [Lib.trimPrefix,h2],fun h=>by rw [h2] at h;cases h⟩
theorem trim_len (n:Int):(Lib.decDigits n.natAbs).length≤(Lib.itoa n).length:=by
  rcases itoa_cases n with ⟨h,e⟩|⟨h,e⟩<;>rw [e]<;>simp
theorem dec_ne_zero {n:Nat} (h:0 < n):Lib.decDigits n≠[48]:=by
  intro e
  have:=dval_decDigits n
  rw [e] at this
  have h1:dval [48]=0:=by decide
  omega
theorem dec_ne_one {n:Nat} (h:n≠1):Lib.decDigits n≠[49]:=by
  intro e
  have:=dval_decDigits n
  rw [e] at this
  have h1:dval [49]=1:=by decide
  omega
theorem dval_acc:∀ (l:List UInt8) (a:Nat),l.foldl (fun a c=>10 * a+(c.toNat - 48)) a=a * 10 ^ l.length+dval l
  | [],a=>by simp [dval]
  | c::r,a=>by
    have h1:=dval_acc r (10 * a+(c.toNat - 48))
    have h2:=dval_acc r (10 * 0+(c.toNat - 48))
    simp only [dval,List.foldl_cons,List.length_cons,Nat.pow_succ] at h1 h2 ⊢
    rw [h1,h2,Nat.add_mul,Nat.add_mul,Nat.mul_comm 10 a,Nat.mul_assoc,Nat.mul_comm 10 (10 ^ _)];omega
theorem dval_append (l r:List UInt8):dval (l++r)=dval l * 10 ^ r.length+dval r:=by
  rw [dval,List.foldl_append];exact dval_acc r _
theorem dval_cons (c:UInt8) (r:List UInt8):dval (c::r)=(c.toNat - 48) * 10 ^ r.length+dval r:=by
  have:=dval_append [c] r
  simpa [dval] using this
theorem parse_digits:∀ (l:List UInt8) (acc:Nat),(∀ c ∈ l,isDig c=true)→acc * 10 ^ l.length+dval l < 18446744073709551616→Lib.parseUint10 acc l=.ok (acc * 10 ^ l.length+dval l)
  | [],acc,_,_=>by simp [Lib.parseUint10,dval]
  | c::r,acc,h,hb=>by
    have hc:=(isDig_iff c).1 (h c (by simp))
    have h10:1≤10 ^ r.length:=Nat.one_le_pow _ _ (by omega)
    rw [dval_cons,List.length_cons,Nat.pow_succ] at hb ⊢
    have e:acc * (10 ^ r.length * 10)+((c.toNat - 48) * 10 ^ r.length+dval r)=(acc * 10+(c.toNat - 48)) * 10 ^ r.length+dval r:=by
      rw [Nat.add_mul,Nat.mul_assoc acc 10,Nat.mul_comm 10];omega
    rw [e] at hb ⊢
    have hlt:acc * 10+(c.toNat - 48) < 18446744073709551616:=by
      have:=Nat.mul_le_mul_left (acc * 10+(c.toNat - 48)) h10
      omega
    rw [Lib.parseUint10,if_pos hc,if_neg (by omega),if_neg (by omega)]
    exact parse_digits r _ (fun c hc=>h c (by simp [hc])) hb
theorem atoi_itoa {n:Int} (h0 : -9223372036854775808≤n) (h1:n≤9223372036854775807):Lib.atoiAll (Lib.itoa n)=.ok n:=by
  have hp:Lib.parseMag (Lib.decDigits n.natAbs)=.ok n.natAbs:=by
    have:=parse_digits (Lib.decDigits n.natAbs) 0 (decDigits_isDig _) (by rw [dval_decDigits];omega)
    rw [dval_decDigits] at this
    unfold Lib.parseMag
    rw [if_neg (decDigits_ne _),this];simp
  rcases itoa_cases n with ⟨h,e⟩|⟨h,e⟩
  · rw [e]
    simp only [Lib.atoiAll]
    rw [if_pos (by decide),hp]
    simp only []
    rw [if_neg (by simp),if_neg (by simp;omega),if_pos (by decide)]
    congr 1;omega
  · rw [e]
    cases hd:Lib.decDigits n.natAbs with
    | nil=>exact absurd hd (decDigits_ne _)
    | cons c r =>
      have hc:=(isDig_iff c).1 (decDigits_isDig n.natAbs c (by rw [hd];simp))
      simp only [Lib.atoiAll]
      rw [if_neg (by omega),← hd,hp]
      simp only []
      rw [if_neg (by omega),if_neg (by omega),if_neg (by omega)]
      congr 1;omega
end Go.Proofs.YteepphiomcedfaaGreatDoor
namespace Go.Proofs.YteepphiomcedfaaGreatDoor
open Go
theorem dropWhile_all {p:UInt8→Bool} (l:List UInt8) (h:∀ c ∈ l,p c=true):l.dropWhile p=[]:=by
 induction l with
 | nil=>rfl
 | cons a t ih=>rw [List.dropWhile_cons,if_pos (h a (by simp))];exact ih fun c hc=>h c (by simp [hc])
theorem contains_digit (c:UInt8):([48,49,50,51,52,53,54,55,56,57]:List UInt8).contains c=isDig c:=by
 have h:∀ n:Fin 256,([48,49,50,51,52,53,54,55,56,57]:List UInt8).contains (UInt8.ofNat n.val)=isDig (UInt8.ofNat n.val):=by decide +kernel
 have:=h ⟨c.toNat,c.toNat_lt⟩
 simpa using this
theorem trimS_digits (l:List UInt8) (h:∀ c ∈ l,isDig c=true):Lib.trimS l [48,49,50,51,52,53,54,55,56,57]=[]:=by
 have e:Lib.trimRightS l [48,49,50,51,52,53,54,55,56,57]=[]:=by
  unfold Lib.trimRightS
  rw [dropWhile_all];rfl
  intro c hc
  rw [contains_digit];exact h c (by simpa using hc)
 rw [Lib.trimS,e];rfl
theorem decDigits_head' {n:Nat} (h:0 < n):(Lib.decDigits n).head?≠some 48:=by
 by_cases hl:1 < (Lib.decDigits n).length
 ·exact decDigits_head n hl
 ·have hs:n < 10:=by
   refine Decidable.byContradiction fun hc=>hl ?_
   rw [Lib.decDigits,dif_neg hc]
   have:=List.length_pos_iff.2 (decDigits_ne (n / 10))
   simp;omega
  rw [Lib.decDigits,dif_pos hs]
  have key:∀ k,k < 10→0 < k→(UInt8.ofNat (48+k))≠48:=by decide
  simpa using key _ hs h
theorem itoa_zero:Lib.itoa 0=[48]:=by rw [Lib.itoa,if_neg (by omega)];simpa using Lib.decDigits_one (i:=0) (by omega)
theorem itoa_ne0 {n:Int} (h:n≠0):Lib.itoa n≠[48]:=by
 rcases itoa_cases n with ⟨h1,e⟩|⟨h1,e⟩
 ·rw [e];intro h2;injection h2 with h3 h4;exact absurd h3 (by decide)
 ·rw [e];exact dec_ne_zero (by omega)
theorem pow_le_of_lt {n k:Nat} (h:(Lib.decDigits n).length≤k):n < 10 ^ k:=by
 rw [Lib.decDigits_length] at h
 exact Nat.lt_of_lt_of_le (Lib.lt_pow_nDigits n) (Nat.pow_le_pow_right (by omega) h)
theorem itoa_lt {n:Int} {k:Nat} (h:(Lib.itoa n).length≤k):n.natAbs < 10 ^ k:=pow_le_of_lt (Nat.le_trans (trim_len n) h)
theorem nDigits_le_of_lt {n k:Nat} (h:n < 10 ^ k) (hk:1≤k):Lib.nDigits n≤k:=by
 refine Nat.le_of_not_lt fun hc=>?_
 have:∀ k m,k < Lib.nDigits m→1≤k→10 ^ k≤m:=by
  intro k
  induction k with
  | zero=>intro m _ h;omega
  | succ k ih =>
   intro m hm _
   by_cases hs:m < 10
   ·rw [Lib.nDigits_small hs] at hm;omega
   ·rw [Lib.nDigits_big hs] at hm
    by_cases hk:1≤k
    ·have:=ih (m / 10) (by omega) hk
     rw [Nat.pow_succ];omega
    ·have:k=0:=by omega
     subst this;omega
 have:=this k n hc hk
 omega
theorem itoa_len_le {n:Int} {k:Nat} (h:n.natAbs < 10 ^ k) (hk:1≤k):(Lib.itoa n).length≤k+1:=by
 have:=nDigits_le_of_lt h hk
 rcases itoa_cases n with ⟨_,e⟩|⟨_,e⟩<;>rw [e]<;>simp [Lib.decDigits_length]<;>omega
end Go.Proofs.YteepphiomcedfaaGreatDoor
namespace Go.Proofs.YteepphiomcedfaaGreatDoor
structure Side where
 x:Int
 y:Int
 rise:Int
 run:Int
 gable:Bool
 plate:Int
 over:Int
instance:Inhabited Side:=⟨⟨0,0,0,0,false,0,0⟩⟩
abbrev Ring:=List Side
def sd (l:Ring) (i:Nat):Side:=l.getD i default
def nxi (n i:Nat):Nat:=(i+1) % n
def nx (l:Ring) (i:Nat):Side:=sd l (nxi l.length i)
def sg (n:Int):Int:=if n < 0 then -1 else if 0 < n then 1 else 0
def Touch (a a' b b':Side):Prop:=min a.x a'.x≤max b.x b'.x∧min b.x b'.x≤max a.x a'.x∧min a.y a'.y≤max b.y b'.y∧min b.y b'.y≤max a.y a'.y
def rg (P:List Ring) (r:Nat):Ring:=P.getD r []
def Skip (P:List Ring) (r i s k:Nat):Prop:=r=s∧(k≤i∨k=i+1∨(i=0∧k+1=(rg P r).length))
def Meet (P:List Ring) (r i s k:Nat):Prop:=¬ Skip P r i s k∧Touch (sd (rg P r) i) (nx (rg P r) i) (sd (rg P s) k) (nx (rg P s) k)
def Crossed (P:List Ring):Prop:=∃ r i s k,r < P.length∧i < (rg P r).length∧r≤s∧s < P.length∧k < (rg P s).length∧Meet P r i s k
def Hit (l:Ring) (x y:Int) (i:Nat):Prop:=(sd l i).x=(nx l i).x∧x < (nx l i).x∧min (sd l i).y (nx l i).y≤y∧y < max (sd l i).y (nx l i).y
instance (l:Ring) (x y:Int) (i:Nat):Decidable (Hit l x y i):=inferInstanceAs (Decidable (_∧_))
def wx (l:Ring) (i:Nat):Int:=(nx l i).x - (sd l i).x
def wy (l:Ring) (i:Nat):Int:=(nx l i).y - (sd l i).y
def pls (P:List Ring) (k:Nat):List (Nat × Nat):=(List.range k).flatMap fun r=>(List.range (rg P r).length).map fun i=>(r,i)
theorem pls_succ (P:List Ring) (k:Nat):pls P (k+1)=pls P k++(List.range (rg P k).length).map fun i=>(k,i):=by simp [pls,List.range_succ]
theorem pls_mem {P:List Ring} {k:Nat} {x:Nat × Nat} (h:x ∈ pls P k):x.1 < k∧x.2 < (rg P x.1).length:=by
 simp only [pls,List.mem_flatMap,List.mem_range,List.mem_map] at h
 obtain ⟨r,hr,i,hi,rfl⟩:=h
 exact ⟨hr,hi⟩
theorem pls_sorted (P:List Ring):∀ k,(pls P k).Pairwise (fun a b=>a.1 < b.1∨(a.1=b.1∧a.2 < b.2)):=by
 intro k
 induction k with
 | zero=>exact List.Pairwise.nil
 | succ k ih =>
  rw [pls_succ,List.pairwise_append]
  refine ⟨ih,?_,?_⟩
  ·rw [List.pairwise_map]
   exact (List.pairwise_lt_range).imp (fun h=>.inr ⟨rfl,h⟩)
  ·intro a ha b hb
   obtain ⟨i,_,rfl⟩:=List.mem_map.1 hb
   exact .inl (pls_mem ha).1
theorem apart {P:List Ring} (h:¬ Crossed P) {i k:Nat} (hi:i < (pls P P.length).length) (hk:k < i) {a b:Nat × Nat} (ha:(pls P P.length)[i]=a) (hb:(pls P P.length)[k]'(by omega)=b) :
  (a.1=b.1∧((a.2:Int) - b.2=1∨(a.2:Int) - b.2=(rg P a.1).length - 1))∨¬ Touch (sd (rg P b.1) b.2) (nx (rg P b.1) b.2) (sd (rg P a.1) a.2) (nx (rg P a.1) a.2):=by
 have hs:=List.pairwise_iff_getElem.1 (pls_sorted P P.length) k i (by omega) hi hk
 rw [ha,hb] at hs
 have ma:=pls_mem (ha ▸ List.getElem_mem hi)
 have mb:=pls_mem (hb ▸ List.getElem_mem (show k < (pls P P.length).length by omega))
 by_cases hT:Touch (sd (rg P b.1) b.2) (nx (rg P b.1) b.2) (sd (rg P a.1) a.2) (nx (rg P a.1) a.2)
 ·refine .inl (Decidable.byContradiction fun hc=>h ⟨b.1,b.2,a.1,a.2,mb.1,mb.2,by omega,ma.1,ma.2,?_,hT⟩)
  rintro ⟨e,h2⟩
  refine hc ⟨e.symm,?_⟩
  have e':(rg P b.1).length=(rg P a.1).length:=by rw [e]
  omega
 ·exact .inr hT
end Go.Proofs.YteepphiomcedfaaGreatDoor
