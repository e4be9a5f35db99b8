/- tilecount.beginnings: the iterator's contract. -/
import Derived.Test.YtjpigaobeegbgaaGreatDoorWOps
import Derived.Test.YtjpigaobeegbgaaGreatDoorWDiv
import Derived.RangeFuncNested
import Derived.RangeFuncBound
import Derived.RangeFuncCalls
import Derived.RangeFuncLeaves
import Derived.Shelf.Abstract
import Derived.Shelf.RegionOpen
import Derived.OwnWalkIn
import Derived.TacticsInMore
import Derived.LoopNIn
import Derived.LoopIn
import Derived.Sort.LoopGhostIn
namespace Go.Proofs.YtjpigaobeegbgaaGreatDoor
open Go.RowKit Go.Shelf
attribute [local go_sem] Oper.semAt_some
/-- a number as a value -/
def numS (q : Rat) : ByteArray := ⟨(ratText q).toArray⟩
theorem numS_list (q : Rat) : (numS q).data.toList = ratText q := rfl
theorem numS_of {s : ByteArray} {q : Rat} (h : s.data.toList = ratText q) : s = numS q := by
  apply ByteArray.ext
  apply Array.toList_inj.1
  rw [h]; rfl
/-- what a round keeps: what lay below B, and two boxes -/
def KpB (B b2 b3 : Nat) (W W' : World) : Prop := Below B W W' ∧ W'.heap[b2]? = W.heap[b2]? ∧ W'.heap[b3]? = W.heap[b3]?
theorem KpB.t {B b2 b3 : Nat} {X Y Z : World} (h : KpB B b2 b3 X Y) (k : KpB B b2 b3 Y Z) : KpB B b2 b3 X Z := ⟨h.1.trans k.1, k.2.1.trans h.2.1, k.2.2.trans h.2.2⟩
theorem KpB.b {B b2 b3 m : Nat} (h1 : B ≤ m) (h2 : b2 < m) (h3 : b3 < m) (W : World) (l : Nat) (o o' : Obj) (hl : m ≤ l) (_ : W.heap[l]? = some o) (_ : o.isCells = false) (_ : o.isWalk = false) : KpB B b2 b3 W (W.putObj l o') := by
  have hg := grownBy_putObj' W l o'
  refine ⟨⟨hg.os, hg.tape, hg.output, hg.size, fun k hk => ?_⟩, ?_, ?_⟩
  · exact World.putObj_heap_other (by omega)
  · exact World.putObj_heap_other (by omega)
  · exact World.putObj_heap_other (by omega)
/-- the beginnings of the tiles -/
def ats (f wd : Rat) (N : Nat) : List Rat := (List.range N).map (fun k : Nat => f + (k : Rat) * wd)
theorem ats_zero (f wd : Rat) : ats f wd 0 = [] := rfl
theorem ats_succ (f wd : Rat) (k : Nat) : ats f wd (k + 1) = ats f wd k ++ [f + (k : Rat) * wd] := by simp [ats, List.range_succ]
theorem ats_length (f wd : Rat) (k : Nat) : (ats f wd k).length = k := by simp [ats]
theorem ats_prefix (f wd : Rat) {k N : Nat} (h : k ≤ N) : ats f wd k <+: ats f wd N := by
  induction h with
  | refl => exact List.prefix_refl _
  | step h ih => rw [ats_succ]; exact ih.trans (List.prefix_append _ _)
/-- N steps of wd lead from f to hi or beyond, no fewer -/
structure StepsTo (f hi wd : Rat) (N : Nat) : Prop where
  lt : ∀ k : Nat, k < N → f + (k : Rat) * wd < hi
  ge : hi ≤ f + (N : Rat) * wd
  sm : ∀ k : Nat, k ≤ N → Small (f + (k : Rat) * wd)
  hi : Small hi
  wd : Small wd
theorem abides_below {J : List Rat → World → Prop} {B : Nat} (hJ : AbidesFrom B J) {xs : List Rat} {W W' : World} (h : J xs W) (hB : Below W.heap.size W W') : J xs W' :=
  hJ xs W W' none h ⟨hB.os, hB.tape, hB.output, hB.size, fun k hk _ => hB.block k hk⟩ (fun r e => by cases e)
theorem cmp_lt {p q : Rat} (h : p < q) : Lib.compareInt (p.num * q.den) (q.num * p.den) = -1 := by
  rw [Lib.compareInt, if_pos (Rat.lt_iff _ _ |>.1 h)]
theorem cmp_ge {p q : Rat} (h : q ≤ p) : 0 ≤ Lib.compareInt (p.num * q.den) (q.num * p.den) := by
  have := Rat.le_iff _ _ |>.1 h
  rw [Lib.compareInt, if_neg (by omega)]
  split <;> omega
set_option maxRecDepth 100000 in
set_option maxHeartbeats 2000000 in
theorem begin1_in {f hi wd : Rat} {N : Nat} (n : Nat) (hn : 1 ≤ n) (l b1 b2 b3 : Nat) (B : Nat) (J Jx : List Rat → World → Prop) (hst : StepsTo f hi wd N)
    (hY : ∀ pre x W, J pre W → pre.length < N → YieldAt Fence.wide (n - 1) Tryz.prog l #[.string (numS x)] W fun e W' =>
      (e = .returned (.bool true) ∧ J (pre ++ [x]) W' ∧ KpB B b2 b3 W W') ∨ (e = .returned (.bool false) ∧ Jx (pre ++ [x]) W'))
    (W : World) (hJ : AbidesFrom W.heap.size J) (w0 : World) (hG : Glo w0) (hw0 : Below w0.heap.size w0 W) (hB : w0.heap.size ≤ B)
    (c1 : W.cell? ⟨b1, 0, none⟩ = some (.string (numS f))) (c2 : W.cell? ⟨b2, 1, none⟩ = some (.string (numS hi))) (c3 : W.cell? ⟨b3, 0, none⟩ = some (.string (numS wd))) (h0 : J [] W) :
    CallsIn Fence.wide n Tryz.prog 97 #[.func (.yield l) #[] #[], .pointer (some ⟨b1, 0, none⟩), .pointer (some ⟨b2, 0, none⟩), .pointer (some ⟨b3, 0, none⟩)] W fun e W' => (∃ v, e = .returned v) ∧
      ((∃ ys, ys = ats f wd N ∧ J ys W') ∨ (∃ pre, pre <+: ats f wd N ∧ Jx pre W')) := by
  have HG := Lib.hid hG
  have HST := Lib.hid hst
  have HJ := Lib.hid hJ
  have HY := Lib.hid hY
  clear hG hst hJ hY
  refine callsIn_of_wp Tryz.func97 rfl trivial ?_ rfl
  simp only [Tryz.ntmps97, List.size_toArray, List.length_cons, List.length_nil, Nat.reduceAdd, Nat.reduceSub, Array.replicate_succ, Array.replicate_zero, List.push_toArray, List.append_toArray, List.nil_append, List.cons_append]
  gi_wp2
  gi_loopg [5] N (fun g v wr => ∃ k : Nat, k ≤ N ∧ g = N - k ∧ v = .string (numS (f + (k : Rat) * wd)) ∧ Hid (J (ats f wd k) wr) ∧ Below w0.heap.size w0 wr ∧ wr.cell? ⟨b2, 1, none⟩ = some (.string (numS hi)) ∧ wr.cell? ⟨b3, 0, none⟩ = some (.string (numS wd)))
  case atStart => exact ⟨0, by omega, rfl, by simp [Rat.zero_mul, Rat.add_zero], Lib.hid h0, hw0, c2, c3⟩
  case round =>
    obtain ⟨k, hk, rfl, rfl, hJk, hBk, k2, k3⟩ := hrel
    by_cases hkn : k = N
    · subst hkn
      have hc := cmp_ge HST.out.ge
      gi_wp2_with (refine ⟨trivial, ?_⟩; gi_at_call 25; refine (callsIn_wide.2 (Compare_small _ _ _ (numS_list _) (HST.out.sm k (Nat.le_refl _)) (numS_list _) HST.out.hi)).mono ?_; rintro e w' ⟨rfl, hB'⟩)
      refine ⟨fun _ h => (by cases h), ?_⟩
      gi_wp2
      refine bodyPost_ret (results_none rfl _ _ _) rfl ?_
      exact ⟨⟨_, rfl⟩, .inl ⟨_, rfl, abides_below HJ.out hJk.out hB'⟩⟩
    · have hk1 : k < N := by omega
      have hc := cmp_lt (HST.out.lt k hk1)
      have hpl : (ats f wd k).length < N := by rw [ats_length]; exact hk1
      gi_wp2_with (refine ⟨trivial, ?_⟩; gi_at_call 25; refine (callsIn_wide.2 (Compare_small _ _ _ (numS_list _) (HST.out.sm k hk) (numS_list _) HST.out.hi)).mono ?_; rintro e w' ⟨rfl, hB'⟩; rw [hc]; have hB2 : Below w0.heap.size w0 w' := hBk.trans (hB'.mono hBk.size); have k2' := keep hB' k2; have k3' := keep hB' k3; obtain ⟨fn, tmps, assign, body, hy, hR⟩ := HY.out (ats f wd k) (f + (k : Rat) * wd) w' (abides_below (HJ.out) hJk.out hB') hpl)
      have hsm1 := HST.out.sm (k + 1) hk1
      have hnx : f + (k : Rat) * wd + wd = f + ((k + 1 : Nat) : Rat) * wd := by
        rw [Rat.natCast_add, Rat.add_mul, Rat.add_assoc]; simp [Rat.one_mul]
      have HNX := Lib.hid hnx
      clear hnx
      refine hR.mono ?_
      rintro e W3 (⟨rfl, hJ3, hk3⟩ | ⟨rfl, hJx3⟩)
      · have hB3 : Below w0.heap.size w0 W3 := hB2.trans (hk3.1.mono hB)
        have k23 : W3.cell? ⟨b2, 1, none⟩ = some (.string (numS hi)) := (World.cell?_of_block hk3.2.1).trans k2'
        have k33 : W3.cell? ⟨b3, 0, none⟩ = some (.string (numS wd)) := (World.cell?_of_block hk3.2.2).trans k3'
        have hJ3' := Lib.hid hJ3
        clear hJ3 hk3
        gi_wp2
        refine ⟨trivial, ?_⟩
        refine (callsIn_wide.2 (Add_small _ _ _ (HG.out.below hB3) (numS_list _) (HST.out.sm k hk) (numS_list _) HST.out.wd)).mono ?_
        rintro e w4 ⟨r, hr, rfl, hB4⟩
        have he := numS_of hr
        subst he
        rw [HNX.out]
        have hB4' : Below w0.heap.size w0 w4 := hB3.trans (hB4.mono hB3.size)
        have k24 := keep hB4 k23
        have k34 := keep hB4 k33
        have hJ4 : Hid (J (ats f wd (k + 1)) w4) := Lib.hid (by rw [ats_succ]; exact abides_below HJ.out hJ3'.out hB4)
        clear hr hB4 k23 k33 hJ3'
        gi_wp2
        gi_roundg (N - (k + 1))
        case rel => exact ⟨k + 1, hk1, rfl, by simp [Rat.natCast_add], hJ4, hB4', k24, k34⟩
        case measure => omega
      · gi_wp2
        refine bodyPost_ret (results_none rfl _ _ _) rfl ?_
        exact ⟨⟨_, rfl⟩, .inr ⟨_, by rw [← ats_succ]; exact ats_prefix _ _ hk1, hJx3⟩⟩
/-- as a sequence that stops -/
theorem begin_stops {f hi wd : Rat} {N : Nat} (n : Nat) (hn : 1 ≤ n) (b1 b2 b3 : Nat) (B : Nat) (hst : StepsTo f hi wd N) (w0 w : World) (hG : Glo w0) (hw0 : Below w0.heap.size w0 w) (hB : w0.heap.size ≤ B)
    (c1 : w.cell? ⟨b1, 0, none⟩ = some (.string (numS f))) (c2 : w.cell? ⟨b2, 1, none⟩ = some (.string (numS hi))) (c3 : w.cell? ⟨b3, 0, none⟩ = some (.string (numS wd))) :
    SeqStopsK Fence.wide n Tryz.prog 97 #[.pointer (some ⟨b1, 0, none⟩), .pointer (some ⟨b2, 0, none⟩), .pointer (some ⟨b3, 0, none⟩)] (fun q : Rat => #[Value.string (numS q)]) (KpB B b2 b3) (fun ys => ys = ats f wd N) (fun pre => pre <+: ats f wd N) N w := fun l J Jx W hW hJ _ hY h0 =>
  begin1_in n hn l b1 b2 b3 B J Jx hst hY W hJ w0 hG (hw0.trans (hW.mono hw0.size)) hB (keep hW c1) (keep hW c2) (keep hW c3) h0
set_option maxHeartbeats 400000 in
/-- the iterator is made -/
theorem beginnings_any (a b c d : ByteArray) (w : World) :
    Calls Tryz.prog 51 #[.string a, .agg #[.string b, .string c], .string d] w fun e w' => e = .returned (.func (.func 97) #[] #[.pointer (some ⟨w.heap.size, 0, none⟩), .pointer (some ⟨w.heap.size + 1, 0, none⟩), .pointer (some ⟨w.heap.size + 2, 0, none⟩)]) ∧ w' = ((w.alloc (.cells #[.string a] 38)).alloc (.cells #[.string b, .string c] 53)).alloc (.cells #[.string d] 38) := by
  have hmf : ∀ (fn : Fn) (first cap : Array Value) (w : World), (Instr.makeFunc fn first cap).run Tryz.prog w = .ok (.func fn first cap) w := fun _ _ _ _ => rfl
  go_enter Tryz.func51, Tryz.ntmps51
  go_wp2_with fail
  go_ret
  exact ⟨rfl, rfl⟩
end Go.Proofs.YtjpigaobeegbgaaGreatDoor
