/- The walks of kingpostlaw48.num and spans. -/
import Derived.Test.YtjpigaobeegbgaaGreatDoorQuart2
import Derived.Test.YtjpigaobeegbgaaGreatDoorDrawn2
import Derived.Test.YtjpigaobeegbgaaGreatDoorWAwake
import Derived.Deep.AppendLies
namespace Go.Proofs.YtjpigaobeegbgaaGreatDoor
open Go.RowKit
attribute [local go_sem ↓] Go.wp_at_zero Go.wp_at_succ
set_option maxHeartbeats 400000 in
theorem num_any (n d : Int) (w : World) (hG : Glo w) (h0 : n.natAbs < 100000) (h1 : 1 < d) (h2 : d < 100000) :
    Calls Tryz.prog 20 #[.int .i64 n, .int .i64 d] w fun e w' => ∃ s : ByteArray, Hid (s = numS (Rat.divInt n d)) ∧ e = .returned (.string s) ∧ Below w.heap.size w w' := by
  have HO := fun w (hG : Glo w) => Of_small n d w hG (by omega) h1 (by omega)
  have HG := Lib.hid hG
  have HO' := Lib.hid HO
  clear HO hG h0 h1 h2
  go_enter Tryz.func20, Tryz.ntmps20
  go_wp2_with fail
  refine (HO'.out _ HG.out).mono ?_
  rintro e w1 ⟨r, hr, rfl, hB1⟩
  have HR := Lib.hid hr
  clear hr
  go_wp2_with fail
  go_ret
  exact ⟨r, Lib.hid (numS_of HR.out), rfl, hB1⟩
/-- bytes in memory -/
def IsBytes (w : World) (v : Value) (l : List Int) : Prop := ∃ (a : Option Addr) (cap : Nat), v = .slice a l.length cap ∧
  (l ≠ [] → ∃ ad, a = some ad ∧ ∀ k, k < l.length → w.cell? (ad.add k) = some (.int .u8 (l.getD k 0)))
theorem keepA {w W : World} {p : Addr} {v : Value} (hB : Below w.heap.size w W) (h : w.cell? p = some v) : W.cell? p = some v := by
  have hlt : p.block < w.heap.size := by
    by_cases hb : p.block < w.heap.size
    · exact hb
    · simp [World.cell?, Array.getElem?_eq_none (Nat.not_lt.1 hb)] at h
  exact (hB.cell (p := p) hlt).trans h
theorem IsBytes.below {w w' : World} {v : Value} {l : List Int} (h : IsBytes w v l) (hB : Below w.heap.size w w') : IsBytes w' v l := by
  obtain ⟨a, cap, h1, h2⟩ := h
  refine ⟨a, cap, h1, fun hn => ?_⟩
  obtain ⟨ad, e, hc⟩ := h2 hn
  exact ⟨ad, e, fun k hk => keepA hB (hc k hk)⟩
/-- spans as cells -/
def spanVs (l : List (Rat × Rat)) : List Value := l.flatMap (fun s => [.string (numS s.1), .string (numS s.2)])
theorem spanVs_snoc (l : List (Rat × Rat)) (s : Rat × Rat) : spanVs (l ++ [s]) = spanVs l ++ [.string (numS s.1), .string (numS s.2)] := by simp [spanVs]
theorem spanVs_length (l : List (Rat × Rat)) : (spanVs l).length = l.length * 2 := by
  induction l with
  | nil => rfl
  | cons a t ih => simp only [spanVs, List.flatMap_cons, List.length_append, List.length_cons, List.length_nil] at ih ⊢; omega
theorem spanVs_get (l : List (Rat × Rat)) : ∀ k (h : k < l.length), (spanVs l)[k * 2]? = some (.string (numS l[k].1)) ∧ (spanVs l)[k * 2 + 1]? = some (.string (numS l[k].2)) := by
  induction l with
  | nil => intro k h; simp at h
  | cons a t ih =>
    intro k h
    cases k with
    | zero => simp [spanVs]
    | succ k =>
      have := ih k (by simpa using h)
      have e : spanVs (a :: t) = [.string (numS a.1), .string (numS a.2)] ++ spanVs t := by simp [spanVs]
      rw [e, List.getElem?_append_right (by simp; omega), List.getElem?_append_right (by simp; omega)]
      simp only [List.length_cons, List.length_nil, List.getElem_cons_succ]
      rw [show (k + 1) * 2 - (0 + 1 + 1) = k * 2 by omega, show (k + 1) * 2 + 1 - (0 + 1 + 1) = k * 2 + 1 by omega]
      exact this
theorem isSpans_row {w : World} {B : Nat} {v : Value} {sp : List (Rat × Rat)} (h : w.ownsRow B 53 2 v sp.length (spanVs sp)) : IsSpans w v sp := by
  rcases h.2 with ⟨rfl, hl⟩ | ⟨g, cap, cur, rfl, _, hg, h1, _, hs, ht⟩
  · obtain rfl : sp = [] := List.length_eq_zero_iff.1 hl
    exact ⟨none, 0, rfl, by simp, fun h => absurd rfl h⟩
  · refine ⟨some ⟨g, 0, none⟩, cap, rfl, h1, fun _ => ⟨g, 0, rfl, (Array.getElem?_eq_some_iff.1 hg).1, fun k hk => ?_⟩⟩
    have hget : ∀ j u, j < sp.length * 2 → (spanVs sp)[j]? = some u → w.cell? ⟨g, 0 + j, none⟩ = some u := fun j u hj hu => by
      rw [← ht, List.getElem?_take_of_lt hj] at hu
      have h4 : cur[j]? = some u := by simpa using hu
      simp [World.cell?, hg, h4]
    obtain ⟨e1, e2⟩ := spanVs_get sp k hk
    exact ⟨numS sp[k].1, numS sp[k].2, hget _ _ (by omega) e1, by rw [Nat.add_assoc]; exact hget _ _ (by omega) e2, rfl, rfl⟩
/-- what the loop of spans keeps -/
structure SpF (w0 : World) (sv : Value) (k : Nat) (xs : List Value) (W : World) : Prop where
  below : Below w0.heap.size w0 W
  size : w0.heap.size + 2 ≤ W.heap.size
  blk : W.heap[w0.heap.size + 1]? = some (.cells #[.string ⟨#[48]⟩, .string ⟨#[49]⟩, sv] 45 (0, 0))
  res : W.heap[w0.heap.size]? = some (.cells #[.string ⟨#[]⟩, .string ⟨#[]⟩, .slice none 0 0] 45 (0, 0))
  row : W.ownsRow (w0.heap.size + 2) 53 2 sv k xs
theorem cell_blk {W : World} {b : Nat} {cs : Array Value} {t : TypeId} (h : W.heap[b]? = some (.cells cs t (0, 0))) (o : Nat) : W.cell? ⟨b, o, none⟩ = cs[o]? := by
  simp [World.cell?, h]
theorem frozen_blk {W : World} {b : Nat} {cs : Array Value} {t : TypeId} (h : W.heap[b]? = some (.cells cs t (0, 0))) (o : Nat) : W.frozen? ⟨b, o, none⟩ = false := by
  simp [World.frozen?, h]
theorem SpF.c0 {w0 : World} {sv : Value} {k : Nat} {xs : List Value} {W : World} (h : SpF w0 sv k xs W) : W.cell? ⟨w0.heap.size + 1, 0, none⟩ = some (.string ⟨#[48]⟩) := cell_blk h.blk 0
theorem SpF.c1 {w0 : World} {sv : Value} {k : Nat} {xs : List Value} {W : World} (h : SpF w0 sv k xs W) : W.cell? ⟨w0.heap.size + 1, 1, none⟩ = some (.string ⟨#[49]⟩) := cell_blk h.blk 1
theorem SpF.c2 {w0 : World} {sv : Value} {k : Nat} {xs : List Value} {W : World} (h : SpF w0 sv k xs W) : W.cell? ⟨w0.heap.size + 1, 2, none⟩ = some sv := cell_blk h.blk 2
theorem SpF.below' {w0 : World} {sv : Value} {k : Nat} {xs : List Value} {W W' : World} (h : SpF w0 sv k xs W) (hB : Below W.heap.size W W') : SpF w0 sv k xs W' where
  below := h.below.trans (hB.mono h.below.size)
  size := Nat.le_trans h.size hB.size
  blk := (hB.block _ (by have := h.size; omega)).trans h.blk
  res := (hB.block _ (by have := h.size; omega)).trans h.res
  row := ownsRow_keeps h.row (fun k o hk _ => (hB.block _ (Array.getElem?_eq_some_iff.1 hk).1).trans hk)
theorem SpF.alloc {w0 : World} {sv : Value} {k : Nat} {xs : List Value} {W : World} (h : SpF w0 sv k xs W) (s1 s2 : ByteArray) : ∃ nb, W.heap.size = nb ∧ SpF w0 sv k xs (W.alloc (.cells #[.string s1, .string s2] 53)) ∧ (W.alloc (.cells #[.string s1, .string s2] 53)).heap[nb]? = some (.cells #[.string s1, .string s2] 53 (0, 0)) :=
  ⟨_, rfl, h.below' (below_alloc (Below.refl _ _) _), heap_alloc_new _ _⟩
/-- behind an append -/
theorem SpF.grown {w0 : World} {sv : Value} {k : Nat} {xs : List Value} {W W' : World} (h : SpF w0 sv k xs W) (hg : W.grownBy W' sv.ownBlock) :
    (Below w0.heap.size w0 W' ∧ w0.heap.size + 2 ≤ W'.heap.size ∧ W'.heap[w0.heap.size + 1]? = some (.cells #[.string ⟨#[48]⟩, .string ⟨#[49]⟩, sv] 45 (0, 0)) ∧ W'.heap[w0.heap.size]? = some (.cells #[.string ⟨#[]⟩, .string ⟨#[]⟩, .slice none 0 0] 45 (0, 0))) ∧
    W'.cell? ⟨w0.heap.size + 1, 2, none⟩ = some sv ∧ W'.frozen? ⟨w0.heap.size + 1, 2, none⟩ = false := by
  have hs := h.size
  have hne : ∀ b, b < w0.heap.size + 2 → some b ≠ sv.ownBlock := fun b hb e => by
    rcases h.row.2 with ⟨rfl, _⟩ | ⟨g, cap, cur, rfl, hbg, _⟩
    · simp [Value.ownBlock] at e
    · simp [Value.ownBlock] at e; omega
  have e1 := (hg.block (w0.heap.size + 1) (by omega) (hne _ (by omega))).trans h.blk
  have e2 := (hg.block w0.heap.size (by omega) (hne _ (by omega))).trans h.res
  refine ⟨⟨h.below.trans ⟨hg.os, hg.tape, hg.output, hg.size, fun k hk => hg.block k (by omega) (hne k (by omega))⟩, Nat.le_trans hs hg.size, e1, e2⟩, cell_blk e1 2, frozen_blk e1 2⟩
theorem SpF.next {w0 : World} {sv sv' : Value} {k : Nat} {ys zs : List Value} {W : World}
    (h : Below w0.heap.size w0 W ∧ w0.heap.size + 2 ≤ W.heap.size ∧ W.heap[w0.heap.size + 1]? = some (.cells #[.string ⟨#[48]⟩, .string ⟨#[49]⟩, sv] 45 (0, 0)) ∧ W.heap[w0.heap.size]? = some (.cells #[.string ⟨#[]⟩, .string ⟨#[]⟩, .slice none 0 0] 45 (0, 0)))
    (hr : W.ownsRow (w0.heap.size + 2) 53 2 sv' k ys) (hz : zs = ys) : SpF w0 sv' k zs (W.setCell ⟨w0.heap.size + 1, 2, none⟩ sv') := by
  subst hz
  obtain ⟨h1, h2, h3, h4⟩ := h
  refine ⟨h1.trans (Below.setCell (Below.refl _ _) (by show w0.heap.size ≤ w0.heap.size + 1; omega) _), by simpa [World.setCell] using h2, ?_, ?_, ?_⟩
  · simp [World.setCell, Array.getElem?_modify, h3]
  · exact (Below.heap_setCell W _ _ _ (by show w0.heap.size ≠ w0.heap.size + 1; omega)).trans h4
  · obtain ⟨x1, x2⟩ := hr
    refine ⟨x1, x2.imp id ?_⟩
    rintro ⟨g, cap, cur, y1, y2, y3, y4⟩
    exact ⟨g, cap, cur, y1, y2, (Below.heap_setCell W _ _ _ (by show g ≠ w0.heap.size + 1; omega)).trans y3, y4⟩
theorem SpF.start (w : World) : SpF w (.slice none 0 0) 0 (spanVs []) ((w.alloc (.cells #[.string ⟨#[]⟩, .string ⟨#[]⟩, .slice none 0 0] 45)).alloc (.cells #[.string ⟨#[48]⟩, .string ⟨#[49]⟩, .slice none 0 0] 45)) where
  below := below_alloc (below_alloc (Below.refl _ _) _) _
  size := by simp
  blk := by have := heap_alloc_new (w.alloc (.cells #[.string ⟨#[]⟩, .string ⟨#[]⟩, .slice none 0 0] 45)) (.cells #[.string ⟨#[48]⟩, .string ⟨#[49]⟩, .slice none 0 0] 45); simpa using this
  res := (Below.heap_alloc _ _ _ (by simp)).trans (heap_alloc_new _ _)
  row := ⟨rfl, .inl ⟨rfl, rfl⟩⟩
theorem row_setCell {W : World} {B e size k b : Nat} {v u : Value} {xs : List Value} (h : W.ownsRow B e size v k xs) (o : Nat) (hb : b < B) : (W.setCell ⟨b, o, none⟩ u).ownsRow B e size v k xs := by
  obtain ⟨h1, h2⟩ := h
  refine ⟨h1, h2.imp id ?_⟩
  rintro ⟨g, cap, cur, x1, x2, x3, x4⟩
  exact ⟨g, cap, cur, x1, x2, (Below.heap_setCell W ⟨b, o, none⟩ u g (by show g ≠ b; omega)).trans x3, x4⟩
theorem set3 {W : World} {r : Nat} {x y z a b c : Value} {t : TypeId} (h : W.heap[r]? = some (.cells #[x, y, z] t (0, 0))) : (((W.setCell ⟨r, 0, none⟩ a).setCell ⟨r, 1, none⟩ b).setCell ⟨r, 2, none⟩ c).heap[r]? = some (.cells #[a, b, c] t (0, 0)) := by
  simp [World.setCell, Array.getElem?_modify, h]
theorem spans_step {a mk nk : Int} {l : List Int} {k : Nat} {s1 s2 : ByteArray} (hk : k < l.length) (hm : mAt a l k = mk) (hn : l.getD k 0 = nk) (h1 : s1 = numS (Rat.divInt mk 4)) (h2 : s2 = numS (Rat.divInt (mk + nk + 1) 4)) :
    spanVs ((spanQ a l).take (k + 1)) = spanVs ((spanQ a l).take k) ++ [.string s1, .string s2] := by
  subst h1; subst h2; subst hm; subst hn
  rw [spanQ_succ hk, spanVs_snoc, ← q4_eq, ← q4_eq, Int.add_assoc]; rfl
theorem Tryz.infoRange : (Tryz.prog.info? 53).map (fun i => (i.zero, i.size, i.bytes)) = some (some (.agg #[.string ⟨#[]⟩, .string ⟨#[]⟩]), 2, 32) := by kernel_rfl
set_option maxRecDepth 100000 in
set_option maxHeartbeats 6400000 in
theorem spans_ok (a : Int) (l : List Int) (v : Value) (w : World) (hG : Glo w) (hv : IsBytes w v l) (h5 : l.length ≤ 5) (hb : Bytes l) (a1 : -32768 ≤ a) (a2 : a ≤ 32767) :
    Calls Tryz.prog 15 #[.int .i16 a, v] w fun e w' => ∃ c, e = .returned c ∧ IsCourse w' c 0 1 (spanQ a l) ∧ Below w.heap.size w w' := by
  obtain ⟨ad, cap, rfl, hcells⟩ := hv
  have HG := Lib.hid hG
  have HC := Lib.hid hcells
  have HB := Lib.hid hb
  obtain ⟨i0, hi0, hz0, hz1, hz2⟩ : ∃ i, Tryz.prog.info? 53 = some i ∧ i.zero = some (.agg #[.string ⟨#[]⟩, .string ⟨#[]⟩]) ∧ i.size = 2 ∧ i.bytes = 32 := by
    have h := Tryz.infoRange
    cases hh : Tryz.prog.info? 53 with
    | none => rw [hh] at h; simp at h
    | some i =>
      rw [hh] at h
      simp only [Option.map_some, Option.some.injEq, Prod.mk.injEq] at h
      exact ⟨i, rfl, h.1, h.2.1, h.2.2⟩
  have wa : IntKind.i64.wrap a = a := IntWalk.i64_in _ (by omega)
  clear hG hcells hb
  go_enter Tryz.func15, Tryz.ntmps15
  go_wp2_with fail
  go_loopw [6, 14] (fun at' i wr => ∃ k : Nat, k ≤ l.length ∧ i = .int .i64 k ∧ at' = .int .i64 (mAt a l k) ∧ ∃ sv, SpF w sv k (spanVs ((spanQ a l).take k)) wr) (fun _ i _ => l.length - (intOf i).toNat)
  case atStart =>
    exact ⟨0, by omega, rfl, rfl, .slice none 0 0, SpF.start w⟩
  case round =>
    obtain ⟨k, hk, rfl, rfl, sv, hF⟩ := hrel
    obtain ⟨sa, sc, rfl⟩ : ∃ sa sc, sv = .slice sa k sc := by
      rcases hF.row.2 with ⟨h, h0⟩ | ⟨g, cap, cur, h, _⟩
      · exact ⟨none, 0, by rw [h, h0]⟩
      · exact ⟨_, _, h⟩
    by_cases hkn : k = l.length
    · subst hkn
      have c0 := hF.c0
      have c1 := hF.c1
      have c2 := hF.c2
      have r0 : wr.cell? ⟨w.heap.size, 0, none⟩ = some (.string ⟨#[]⟩) := cell_blk hF.res 0
      have r1 : wr.cell? ⟨w.heap.size, 1, none⟩ = some (.string ⟨#[]⟩) := cell_blk hF.res 1
      have r2 : wr.cell? ⟨w.heap.size, 2, none⟩ = some (.slice none 0 0) := cell_blk hF.res 2
      have g0 : wr.frozen? ⟨w.heap.size, 0, none⟩ = false := frozen_blk hF.res 0
      have g1 : wr.frozen? ⟨w.heap.size, 1, none⟩ = false := frozen_blk hF.res 1
      have g2 : wr.frozen? ⟨w.heap.size, 2, none⟩ = false := frozen_blk hF.res 2
      have hrow := hF.row
      rw [List.take_of_length_le (by rw [spanQ_length]; omega)] at hrow
      have hB := hF.below
      have hz := hF.size
      have hres := hF.res
      clear hF
      go_wp2_with fail
      (try simp only [Exit.inBlock, Exit.then])
      refine bodyPost_ret (results_cell_row rfl _ _ w.heap.size 45 #[.string ⟨#[48]⟩, .string ⟨#[49]⟩, .slice sa l.length sc] (0, 0) _ rfl (set3 hres) Tryz.underlying45 rfl (by kernel_rfl)) rfl ?_
      refine ⟨_, rfl, ⟨⟨#[48]⟩, ⟨#[49]⟩, _, rfl, text_0.symm, text_1.symm, isSpans_row (B := w.heap.size + 2) ?_⟩, (by repeat (first | (with_reducible first | exact Below.refl _ _ | refine Below.setCell ?_ ?_ _ | refine below_drewN ?_ _ | refine Below.drew ?_ | refine below_alloc ?_ _ | refine below_trans'' (by assumption) ?_) | exact Nat.le_refl _ | (focus (simp; done)) | (focus (simp; omega)) | omega))⟩
      rw [spanQ_length]
      exact row_setCell (row_setCell (row_setCell hrow 0 (by omega)) 1 (by omega)) 2 (by omega)
    have hk1 : k < l.length := by omega
    obtain ⟨ba, rfl, hca⟩ := HC.out (fun h => by rw [h] at hk1; simp at hk1)
    have q1 := keepA hF.below (hca k hk1)
    have i1 : (k : Int) < (l.length : Int) := by omega
    have hn := HB.out k
    have hm := mAt_bds (a := a) HB.out k
    obtain ⟨nk, hnk⟩ : ∃ nk, l.getD k 0 = nk := ⟨_, rfl⟩
    obtain ⟨mk, hmk⟩ : ∃ mk, mAt a l k = mk := ⟨_, rfl⟩
    rw [hnk] at q1 hn
    rw [hmk] at hm
    rw [hmk]
    have HNK := Lib.hid hnk
    have HMK := Lib.hid hmk
    have hm1 : -40000 ≤ mk ∧ mk ≤ 40000 := by omega
    have w1 : IntKind.i64.wrap nk = nk := IntWalk.i64_in _ (by omega)
    have w2 : IntKind.i64.wrap (mk + nk) = mk + nk := IntWalk.i64_in _ (by omega)
    have w3 : IntKind.i64.wrap (mk + nk + 1) = mk + nk + 1 := IntWalk.i64_in _ (by omega)
    have w4 : IntKind.i64.wrap (nk + 2) = nk + 2 := IntWalk.i64_in _ (by omega)
    have w5 : IntKind.i64.wrap (mk + (nk + 2)) = mk + (nk + 2) := IntWalk.i64_in _ (by omega)
    clear hnk hmk hm
    clear hca
    go_wp2_with fail
    refine region_any_abs 15 #[false, false, false, false, false, false, false, false, false, false, false, false, false, false, false] (by kernel_rfl) (by kernel_rfl) (by kernel_rfl) (fun _ _ _ _ _ h => h) (fun Q' hQ' hN => ?_)
    have hF := hF.below' (Below.refl _ _).drew
    generalize wr.drew = wd at *
    refine takeA 18 (i := 0) (v := ?_) hQ' rfl (by kernel_rfl) (by kernel_rfl) (by kernel_rfl) (by kernel_rfl) (by kernel_rfl) ?_ ?_; rotate_left; (focus (intro w; go_simp; (try with_reducible rfl))); (try simp only [Act.put, List.setIfInBounds_toArray, List.set_cons_zero, List.set_cons_succ])
    refine takeA 20 (i := 2) (v := ?_) hQ' rfl (by kernel_rfl) (by kernel_rfl) (by kernel_rfl) (by kernel_rfl) (by kernel_rfl) ?_ ?_; rotate_left; (focus (intro w; go_simp; (try with_reducible rfl))); (try simp only [Act.put, List.setIfInBounds_toArray, List.set_cons_zero, List.set_cons_succ])
    refine takeA 22 (i := 4) (v := ?_) hQ' rfl (by kernel_rfl) (by kernel_rfl) (by kernel_rfl) (by kernel_rfl) (by kernel_rfl) ?_ ?_; rotate_left; (focus (intro w; go_simp; (try with_reducible rfl))); (try simp only [Act.put, List.setIfInBounds_toArray, List.set_cons_zero, List.set_cons_succ])
    refine takeA 23 (i := 5) (v := ?_) hQ' rfl (by kernel_rfl) (by kernel_rfl) (by kernel_rfl) (by kernel_rfl) (by kernel_rfl) ?_ ?_; rotate_left; (focus (intro w; go_simp; (try with_reducible rfl))); (try simp only [Act.put, List.setIfInBounds_toArray, List.set_cons_zero, List.set_cons_succ])
    refine takeA 24 (i := 6) (v := ?_) hQ' rfl (by kernel_rfl) (by kernel_rfl) (by kernel_rfl) (by kernel_rfl) (by kernel_rfl) ?_ ?_; rotate_left; (focus (intro w; go_simp; (try with_reducible rfl))); (try simp only [Act.put, List.setIfInBounds_toArray, List.set_cons_zero, List.set_cons_succ])
    refine takeA 25 (i := 7) (v := ?_) hQ' rfl (by kernel_rfl) (by kernel_rfl) (by kernel_rfl) (by kernel_rfl) (by kernel_rfl) ?_ ?_; rotate_left; (focus (intro w; go_simp; (try with_reducible rfl))); (try simp only [Act.put, List.setIfInBounds_toArray, List.set_cons_zero, List.set_cons_succ])
    refine takeA 26 (i := 8) (v := ?_) hQ' rfl (by kernel_rfl) (by kernel_rfl) (by kernel_rfl) (by kernel_rfl) (by kernel_rfl) ?_ ?_; rotate_left; (focus (intro w; go_simp; (try with_reducible rfl))); (try simp only [Act.put, List.setIfInBounds_toArray, List.set_cons_zero, List.set_cons_succ])
    refine wpAny_ready (rs := [1, 3]) (by kernel_rfl) (by simp) ?_
    refine stepA (i := 1) rfl (by kernel_rfl) (fun K hK => ?_) (stepA (i := 3) rfl (by kernel_rfl) (fun K hK => ?_) (AllReady.nil))
    · have q2 := hF.c2
      go_simp
      refine hK.out _ _ ?_
      clear q2
      clear hK K
      (try simp only [Act.put, List.setIfInBounds_toArray, List.set_cons_zero, List.set_cons_succ])
      refine wpAny_ready (rs := [3]) (by kernel_rfl) (by simp) ?_
      refine stepA (i := 3) rfl (by kernel_rfl) (fun K hK => ?_) (AllReady.nil)
      go_simp
      refine (num_any mk 4 _ (HG.out.below hF.below) (by omega) (by omega) (by omega)).mono ?_
      rintro e w' ⟨s1, hs1, rfl, hB⟩
      have hF := hF.below' hB
      clear hB
      go_simp
      refine hK.out _ _ ?_
      clear hK K
      (try simp only [Act.put, List.setIfInBounds_toArray, List.set_cons_zero, List.set_cons_succ])
      refine wpAny_ready (rs := [9]) (by kernel_rfl) (by simp) ?_
      refine stepA (i := 9) rfl (by kernel_rfl) (fun K hK => ?_) (AllReady.nil)
      go_simp
      refine (num_any (mk + nk + 1) 4 _ (HG.out.below hF.below) (by omega) (by omega) (by omega)).mono ?_
      rintro e w' ⟨s2, hs2, rfl, hB⟩
      have hF := hF.below' hB
      clear hB
      go_simp
      refine hK.out _ _ ?_
      clear hK K
      (try simp only [Act.put, List.setIfInBounds_toArray, List.set_cons_zero, List.set_cons_succ])
      refine takeA 28 (i := 10) (v := ?_) hQ' rfl (by kernel_rfl) (by kernel_rfl) (by kernel_rfl) (by kernel_rfl) (by kernel_rfl) ?_ ?_; rotate_left; (focus (intro w; go_simp; (try with_reducible rfl))); (try simp only [Act.put, List.setIfInBounds_toArray, List.set_cons_zero, List.set_cons_succ])
      refine wpAny_ready (rs := [11]) (by kernel_rfl) (by simp) ?_
      refine stepA (i := 11) rfl (by kernel_rfl) (fun K hK => ?_) (AllReady.nil)
      go_simp
      refine hK.out _ _ ?_
      obtain ⟨nb, hnb, hF, hblk⟩ := hF.alloc s1 s2
      rw [hnb]
      generalize World.alloc _ (.cells #[.string s1, .string s2] 53) = wa at *
      clear hK K
      (try simp only [Act.put, List.setIfInBounds_toArray, List.set_cons_zero, List.set_cons_succ])
      refine wpAny_ready (rs := [12]) (by kernel_rfl) (by simp) ?_
      refine stepA (i := 12) rfl (by kernel_rfl) (fun K hK => ?_) (AllReady.nil)
      refine wp_append_lies _ (.tmp 19) (.tmp 29) 43 (by rfl) (w.heap.size + 2) 53 i0 (.agg #[.string ⟨#[]⟩, .string ⟨#[]⟩]) 2 32 Tryz.underlying43 hi0 hz0 hz1 hz2 rfl (by decide) (.slice sa k sc) k (spanVs ((spanQ a l).take k)) (by rfl) hF.row ⟨nb, 0, none⟩ 1 1 [.string s1, .string s2] (by rfl) rfl (World.news_of_block hblk) (by simp [Value.oneCell']) (by omega) (by simp only [maxLen]; omega) (by omega) hF.size _ rfl ?_
      intro g cap w' hown hgrow _ _
      refine hK.out (Act.put _ (some 30) _) _ ?_
      have hA := hF.grown hgrow
      have q2 := hA.2.1
      have f2 := hA.2.2
      clear hK K
      (try simp only [Act.put, List.setIfInBounds_toArray, List.set_cons_zero, List.set_cons_succ])
      refine takeA 31 (i := 13) (v := ?_) hQ' rfl (by kernel_rfl) (by kernel_rfl) (by kernel_rfl) (by kernel_rfl) (by kernel_rfl) ?_ ?_; rotate_left; (focus (intro w; go_simp; (try with_reducible rfl))); (try simp only [Act.put, List.setIfInBounds_toArray, List.set_cons_zero, List.set_cons_succ])
      refine wpAny_ready (rs := [14]) (by kernel_rfl) (by simp) ?_
      refine stepA (i := 14) rfl (by kernel_rfl) (fun K hK => ?_) (AllReady.nil)
      go_simp
      refine hK.out _ _ ?_
      clear hK K
      (try simp only [Act.put, List.setIfInBounds_toArray, List.set_cons_zero, List.set_cons_succ])
      refine wpAny_done (by kernel_rfl) ?_ _
      refine hN.out _ _ ?_
      go_wp2_with fail
      go_roundw
      case rel => exact ⟨k + 1, by omega, by go_num, by rw [mAt_succ, HMK.out, HNK.out, Int.add_assoc], _, SpF.next hA.1 hown (spans_step hk1 HMK.out HNK.out hs1.out hs2.out)⟩
      case measure => simp [intOf]; omega
    · go_simp
      refine (num_any mk 4 _ (HG.out.below hF.below) (by omega) (by omega) (by omega)).mono ?_
      rintro e w' ⟨s1, hs1, rfl, hB⟩
      have hF := hF.below' hB
      clear hB
      go_simp
      refine hK.out _ _ ?_
      clear hK K
      (try simp only [Act.put, List.setIfInBounds_toArray, List.set_cons_zero, List.set_cons_succ])
      refine wpAny_ready (rs := [1, 9]) (by kernel_rfl) (by simp) ?_
      refine stepA (i := 1) rfl (by kernel_rfl) (fun K hK => ?_) (stepA (i := 9) rfl (by kernel_rfl) (fun K hK => ?_) (AllReady.nil))
      · have q2 := hF.c2
        go_simp
        refine hK.out _ _ ?_
        clear q2
        clear hK K
        (try simp only [Act.put, List.setIfInBounds_toArray, List.set_cons_zero, List.set_cons_succ])
        refine wpAny_ready (rs := [9]) (by kernel_rfl) (by simp) ?_
        refine stepA (i := 9) rfl (by kernel_rfl) (fun K hK => ?_) (AllReady.nil)
        go_simp
        refine (num_any (mk + nk + 1) 4 _ (HG.out.below hF.below) (by omega) (by omega) (by omega)).mono ?_
        rintro e w' ⟨s2, hs2, rfl, hB⟩
        have hF := hF.below' hB
        clear hB
        go_simp
        refine hK.out _ _ ?_
        clear hK K
        (try simp only [Act.put, List.setIfInBounds_toArray, List.set_cons_zero, List.set_cons_succ])
        refine takeA 28 (i := 10) (v := ?_) hQ' rfl (by kernel_rfl) (by kernel_rfl) (by kernel_rfl) (by kernel_rfl) (by kernel_rfl) ?_ ?_; rotate_left; (focus (intro w; go_simp; (try with_reducible rfl))); (try simp only [Act.put, List.setIfInBounds_toArray, List.set_cons_zero, List.set_cons_succ])
        refine wpAny_ready (rs := [11]) (by kernel_rfl) (by simp) ?_
        refine stepA (i := 11) rfl (by kernel_rfl) (fun K hK => ?_) (AllReady.nil)
        go_simp
        refine hK.out _ _ ?_
        obtain ⟨nb, hnb, hF, hblk⟩ := hF.alloc s1 s2
        rw [hnb]
        generalize World.alloc _ (.cells #[.string s1, .string s2] 53) = wa at *
        clear hK K
        (try simp only [Act.put, List.setIfInBounds_toArray, List.set_cons_zero, List.set_cons_succ])
        refine wpAny_ready (rs := [12]) (by kernel_rfl) (by simp) ?_
        refine stepA (i := 12) rfl (by kernel_rfl) (fun K hK => ?_) (AllReady.nil)
        refine wp_append_lies _ (.tmp 19) (.tmp 29) 43 (by rfl) (w.heap.size + 2) 53 i0 (.agg #[.string ⟨#[]⟩, .string ⟨#[]⟩]) 2 32 Tryz.underlying43 hi0 hz0 hz1 hz2 rfl (by decide) (.slice sa k sc) k (spanVs ((spanQ a l).take k)) (by rfl) hF.row ⟨nb, 0, none⟩ 1 1 [.string s1, .string s2] (by rfl) rfl (World.news_of_block hblk) (by simp [Value.oneCell']) (by omega) (by simp only [maxLen]; omega) (by omega) hF.size _ rfl ?_
        intro g cap w' hown hgrow _ _
        refine hK.out (Act.put _ (some 30) _) _ ?_
        have hA := hF.grown hgrow
        have q2 := hA.2.1
        have f2 := hA.2.2
        clear hK K
        (try simp only [Act.put, List.setIfInBounds_toArray, List.set_cons_zero, List.set_cons_succ])
        refine takeA 31 (i := 13) (v := ?_) hQ' rfl (by kernel_rfl) (by kernel_rfl) (by kernel_rfl) (by kernel_rfl) (by kernel_rfl) ?_ ?_; rotate_left; (focus (intro w; go_simp; (try with_reducible rfl))); (try simp only [Act.put, List.setIfInBounds_toArray, List.set_cons_zero, List.set_cons_succ])
        refine wpAny_ready (rs := [14]) (by kernel_rfl) (by simp) ?_
        refine stepA (i := 14) rfl (by kernel_rfl) (fun K hK => ?_) (AllReady.nil)
        go_simp
        refine hK.out _ _ ?_
        clear hK K
        (try simp only [Act.put, List.setIfInBounds_toArray, List.set_cons_zero, List.set_cons_succ])
        refine wpAny_done (by kernel_rfl) ?_ _
        refine hN.out _ _ ?_
        go_wp2_with fail
        go_roundw
        case rel => exact ⟨k + 1, by omega, by go_num, by rw [mAt_succ, HMK.out, HNK.out, Int.add_assoc], _, SpF.next hA.1 hown (spans_step hk1 HMK.out HNK.out hs1.out hs2.out)⟩
        case measure => simp [intOf]; omega
      · go_simp
        refine (num_any (mk + nk + 1) 4 _ (HG.out.below hF.below) (by omega) (by omega) (by omega)).mono ?_
        rintro e w' ⟨s2, hs2, rfl, hB⟩
        have hF := hF.below' hB
        clear hB
        go_simp
        refine hK.out _ _ ?_
        clear hK K
        (try simp only [Act.put, List.setIfInBounds_toArray, List.set_cons_zero, List.set_cons_succ])
        refine takeA 28 (i := 10) (v := ?_) hQ' rfl (by kernel_rfl) (by kernel_rfl) (by kernel_rfl) (by kernel_rfl) (by kernel_rfl) ?_ ?_; rotate_left; (focus (intro w; go_simp; (try with_reducible rfl))); (try simp only [Act.put, List.setIfInBounds_toArray, List.set_cons_zero, List.set_cons_succ])
        refine wpAny_ready (rs := [1, 11]) (by kernel_rfl) (by simp) ?_
        refine stepA (i := 1) rfl (by kernel_rfl) (fun K hK => ?_) (stepA (i := 11) rfl (by kernel_rfl) (fun K hK => ?_) (AllReady.nil))
        · have q2 := hF.c2
          go_simp
          refine hK.out _ _ ?_
          clear q2
          clear hK K
          (try simp only [Act.put, List.setIfInBounds_toArray, List.set_cons_zero, List.set_cons_succ])
          refine wpAny_ready (rs := [11]) (by kernel_rfl) (by simp) ?_
          refine stepA (i := 11) rfl (by kernel_rfl) (fun K hK => ?_) (AllReady.nil)
          go_simp
          refine hK.out _ _ ?_
          obtain ⟨nb, hnb, hF, hblk⟩ := hF.alloc s1 s2
          rw [hnb]
          generalize World.alloc _ (.cells #[.string s1, .string s2] 53) = wa at *
          clear hK K
          (try simp only [Act.put, List.setIfInBounds_toArray, List.set_cons_zero, List.set_cons_succ])
          refine wpAny_ready (rs := [12]) (by kernel_rfl) (by simp) ?_
          refine stepA (i := 12) rfl (by kernel_rfl) (fun K hK => ?_) (AllReady.nil)
          refine wp_append_lies _ (.tmp 19) (.tmp 29) 43 (by rfl) (w.heap.size + 2) 53 i0 (.agg #[.string ⟨#[]⟩, .string ⟨#[]⟩]) 2 32 Tryz.underlying43 hi0 hz0 hz1 hz2 rfl (by decide) (.slice sa k sc) k (spanVs ((spanQ a l).take k)) (by rfl) hF.row ⟨nb, 0, none⟩ 1 1 [.string s1, .string s2] (by rfl) rfl (World.news_of_block hblk) (by simp [Value.oneCell']) (by omega) (by simp only [maxLen]; omega) (by omega) hF.size _ rfl ?_
          intro g cap w' hown hgrow _ _
          refine hK.out (Act.put _ (some 30) _) _ ?_
          have hA := hF.grown hgrow
          have q2 := hA.2.1
          have f2 := hA.2.2
          clear hK K
          (try simp only [Act.put, List.setIfInBounds_toArray, List.set_cons_zero, List.set_cons_succ])
          refine takeA 31 (i := 13) (v := ?_) hQ' rfl (by kernel_rfl) (by kernel_rfl) (by kernel_rfl) (by kernel_rfl) (by kernel_rfl) ?_ ?_; rotate_left; (focus (intro w; go_simp; (try with_reducible rfl))); (try simp only [Act.put, List.setIfInBounds_toArray, List.set_cons_zero, List.set_cons_succ])
          refine wpAny_ready (rs := [14]) (by kernel_rfl) (by simp) ?_
          refine stepA (i := 14) rfl (by kernel_rfl) (fun K hK => ?_) (AllReady.nil)
          go_simp
          refine hK.out _ _ ?_
          clear hK K
          (try simp only [Act.put, List.setIfInBounds_toArray, List.set_cons_zero, List.set_cons_succ])
          refine wpAny_done (by kernel_rfl) ?_ _
          refine hN.out _ _ ?_
          go_wp2_with fail
          go_roundw
          case rel => exact ⟨k + 1, by omega, by go_num, by rw [mAt_succ, HMK.out, HNK.out, Int.add_assoc], _, SpF.next hA.1 hown (spans_step hk1 HMK.out HNK.out hs1.out hs2.out)⟩
          case measure => simp [intOf]; omega
        · go_simp
          refine hK.out _ _ ?_
          obtain ⟨nb, hnb, hF, hblk⟩ := hF.alloc s1 s2
          rw [hnb]
          generalize World.alloc _ (.cells #[.string s1, .string s2] 53) = wa at *
          clear hK K
          (try simp only [Act.put, List.setIfInBounds_toArray, List.set_cons_zero, List.set_cons_succ])
          refine wpAny_ready (rs := [1]) (by kernel_rfl) (by simp) ?_
          refine stepA (i := 1) rfl (by kernel_rfl) (fun K hK => ?_) (AllReady.nil)
          have q2 := hF.c2
          go_simp
          refine hK.out _ _ ?_
          clear q2
          clear hK K
          (try simp only [Act.put, List.setIfInBounds_toArray, List.set_cons_zero, List.set_cons_succ])
          refine wpAny_ready (rs := [12]) (by kernel_rfl) (by simp) ?_
          refine stepA (i := 12) rfl (by kernel_rfl) (fun K hK => ?_) (AllReady.nil)
          refine wp_append_lies _ (.tmp 19) (.tmp 29) 43 (by rfl) (w.heap.size + 2) 53 i0 (.agg #[.string ⟨#[]⟩, .string ⟨#[]⟩]) 2 32 Tryz.underlying43 hi0 hz0 hz1 hz2 rfl (by decide) (.slice sa k sc) k (spanVs ((spanQ a l).take k)) (by rfl) hF.row ⟨nb, 0, none⟩ 1 1 [.string s1, .string s2] (by rfl) rfl (World.news_of_block hblk) (by simp [Value.oneCell']) (by omega) (by simp only [maxLen]; omega) (by omega) hF.size _ rfl ?_
          intro g cap w' hown hgrow _ _
          refine hK.out (Act.put _ (some 30) _) _ ?_
          have hA := hF.grown hgrow
          have q2 := hA.2.1
          have f2 := hA.2.2
          clear hK K
          (try simp only [Act.put, List.setIfInBounds_toArray, List.set_cons_zero, List.set_cons_succ])
          refine takeA 31 (i := 13) (v := ?_) hQ' rfl (by kernel_rfl) (by kernel_rfl) (by kernel_rfl) (by kernel_rfl) (by kernel_rfl) ?_ ?_; rotate_left; (focus (intro w; go_simp; (try with_reducible rfl))); (try simp only [Act.put, List.setIfInBounds_toArray, List.set_cons_zero, List.set_cons_succ])
          refine wpAny_ready (rs := [14]) (by kernel_rfl) (by simp) ?_
          refine stepA (i := 14) rfl (by kernel_rfl) (fun K hK => ?_) (AllReady.nil)
          go_simp
          refine hK.out _ _ ?_
          clear hK K
          (try simp only [Act.put, List.setIfInBounds_toArray, List.set_cons_zero, List.set_cons_succ])
          refine wpAny_done (by kernel_rfl) ?_ _
          refine hN.out _ _ ?_
          go_wp2_with fail
          go_roundw
          case rel => exact ⟨k + 1, by omega, by go_num, by rw [mAt_succ, HMK.out, HNK.out, Int.add_assoc], _, SpF.next hA.1 hown (spans_step hk1 HMK.out HNK.out hs1.out hs2.out)⟩
          case measure => simp [intOf]; omega
end Go.Proofs.YtjpigaobeegbgaaGreatDoor
