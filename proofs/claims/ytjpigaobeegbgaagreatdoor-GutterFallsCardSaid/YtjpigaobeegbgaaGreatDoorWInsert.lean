/- Walks: slices.Clone and slices.Insert at numbers. -/
import Derived.Test.YtjpigaobeegbgaaGreatDoorWSpacing
import Derived.Lib.AppendZerosOnto
import Derived.Lib.Overlaps
import Derived.Laws.IdiomCopy
import Derived.WalkSpells
set_option linter.unusedVariables false
set_option linter.unusedSimpArgs false
namespace Go.Proofs.YtjpigaobeegbgaaGreatDoor
open Go.RowKit Go.Shelf
/-- a copy whose run is known -/
theorem wp_copyN {P : Program} (w : World) {o : Oper} {a : Act} {K : Act → World → Prop} {Q : Exit → Act → World → Prop} (d x : Operand) (t t' : TypeId)
    (ho : o.op = .call { callee := .builtin .copy, args := #[d, x], argTypes := #[t, t'] }) (v u : Value) (hd : a.eval d = v) (hx : a.eval x = u) {v' : Value} {w' : World}
    (hr : (Builtin.copy_ #[t, t'] o.type #[v, u]).run P w = .ok v' w') (h : K (a.put o.dst v') w') : o.wp P a w K Q := by
  unfold Oper.wp execOp
  simp only [ho, resolve, invoke, builtin, Sem.run_bind, Sem.run_pure, Result.andThen_ok, List.map_toArray, List.map_cons, List.map_nil, hd, hx, hr]
  exact h
theorem wpList_copyN {P : Program} (w : World) {ops : Array Oper} {rest : List Oper} {o : Oper} {a : Act} {Q : Exit → Act → World → Prop} (hgd : o.guard = none) (d x : Operand) (t t' : TypeId)
    (ho : o.op = .call { callee := .builtin .copy, args := #[d, x], argTypes := #[t, t'] }) (v u : Value) (hd : a.eval d = v) (hx : a.eval x = u) {v' : Value} {w' : World}
    (hr : (Builtin.copy_ #[t, t'] o.type #[v, u]).run P w = .ok v' w') (h : wpList P ops Q rest (a.put o.dst v') w') : wpList P ops Q (o :: rest) a w :=
  wpList_plain hgd fun _ hK => wp_copyN w d x t t' ho v u hd hx hr (hK _ _ h)
theorem Tryz.infoNum1 : (Tryz.prog.info? 38).map (·.size) = some 1 := by kernel_rfl
/-- a number put into a list -/
def insAt (l : List Rat) (i : Nat) (x : Rat) : List Rat := l.take i ++ x :: l.drop i
theorem insAt_length {l : List Rat} {i : Nat} {x : Rat} (h : i ≤ l.length) : (insAt l i x).length = l.length + 1 := by simp [insAt]; omega
theorem insAt_lt {l : List Rat} {i j : Nat} {x : Rat} (h : i ≤ l.length) (hj : j < i) (h' : j < (insAt l i x).length) : (insAt l i x)[j] = l[j] := by
  have e : (insAt l i x)[j]? = some l[j] := by
    unfold insAt
    rw [List.getElem?_append_left (by simp; omega), List.getElem?_take_of_lt hj, List.getElem?_eq_getElem (by omega)]
  exact (List.getElem?_eq_some_iff.1 e).2
theorem insAt_eq {l : List Rat} {i : Nat} {x : Rat} (h : i ≤ l.length) (h' : i < (insAt l i x).length) : (insAt l i x)[i] = x := by
  have e : (insAt l i x)[i]? = some x := by
    unfold insAt
    rw [List.getElem?_append_right (by simp; omega)]
    simp [Nat.min_eq_left h]
  exact (List.getElem?_eq_some_iff.1 e).2
theorem insAt_gt {l : List Rat} {i j : Nat} {x : Rat} (h : i ≤ l.length) (hj : i ≤ j) (hjl : j < l.length) (h' : j + 1 < (insAt l i x).length) : (insAt l i x)[j + 1] = l[j] := by
  have hm : min i l.length = i := Nat.min_eq_left h
  have e : (insAt l i x)[j + 1]? = some l[j] := by
    unfold insAt
    rw [List.getElem?_append_right (by simp; omega), List.length_take, hm, show j + 1 - i = (j - i) + 1 by omega, List.getElem?_cons_succ, List.getElem?_drop, show i + (j - i) = j by omega, List.getElem?_eq_getElem hjl]
  exact (List.getElem?_eq_some_iff.1 e).2
/-- the cells of a list with a number put in -/
theorem ins_strs {W : World} {g i cap : Nat} {l : List Rat} {x : Rat} (hi : i ≤ l.length) (h1 : ∀ j (h : j < l.length), j < i → W.cell? ⟨g, j, none⟩ = some (.string (numS l[j]))) (h2 : W.cell? ⟨g, i, none⟩ = some (.string (numS x)))
    (h3 : ∀ j (h : j < l.length), i ≤ j → W.cell? ⟨g, j + 1, none⟩ = some (.string (numS l[j]))) : IsStrs W (.slice (some ⟨g, 0, none⟩) (l.length + 1) cap) ((insAt l i x).map numS) := by
  refine ⟨some ⟨g, 0, none⟩, cap, by rw [List.length_map, insAt_length hi], fun _ => ⟨g, 0, rfl, fun k hk => ?_⟩⟩
  have hk' : k < (insAt l i x).length := by simpa using hk
  rw [List.getElem_map, Nat.zero_add]
  rw [insAt_length hi] at hk'
  by_cases hki : k < i
  · rw [insAt_lt hi hki]; exact h1 k (by omega) hki
  · by_cases hke : k = i
    · subst hke; rw [insAt_eq hi]; exact h2
    · obtain ⟨j, rfl⟩ : ∃ j, k = j + 1 := ⟨k - 1, by omega⟩
      rw [insAt_gt hi (by omega) (by omega)]; exact h3 j (by omega) (by omega)
def RetInsert (l : List Rat) (i : Nat) (x : Rat) (g : Nat) (w : World) (e : Ending) (w' : World) : Prop := ∃ v, e = .returned v ∧ IsStrs w' v ((insAt l i x).map numS) ∧ Below g w w'
theorem below_setCells {g : Nat} (w : World) (b o : Nat) (vs : List Value) (hb : g ≤ b) : Below g w (w.setCells b o vs) := by
  induction vs generalizing w o with
  | nil => exact Below.refl _ _
  | cons v vs ih =>
    have h1 : Below g w (w.setCell ⟨b, o, none⟩ v) := (sameBut_setCell w b o v).below (Below.refl _ _) hb
    exact h1.trans (ih _ _)
theorem setCell_heap {W W' : World} (a : Addr) (v : Value) (h : W.heap = W'.heap) : (W.setCell a v).heap = (W'.setCell a v).heap := by
  unfold World.setCell
  rw [h]
theorem setCells_heap {W W' : World} (b o : Nat) (vs : List Value) (h : W.heap = W'.heap) : (W.setCells b o vs).heap = (W'.setCells b o vs).heap := by
  induction vs generalizing W W' o with
  | nil => exact h
  | cons v vs ih => exact ih _ (setCell_heap _ _ h)
theorem numVs_get {l : List Rat} {j : Nat} {u : Value} (h : (numVs l)[j]? = some u) : ∃ (h : j < l.length), u = .string (numS l[j]) := by
  unfold numVs at h
  rw [List.getElem?_map] at h
  cases hl : l[j]? with
  | none => rw [hl] at h; cases h
  | some q =>
    rw [hl] at h
    obtain ⟨hj, rfl⟩ := List.getElem?_eq_some_iff.1 hl
    exact ⟨hj, by simpa using h.symm⟩
theorem numVs_one {l : List Rat} : ∀ u ∈ numVs l, u.oneCell' = true := by
  intro u hu
  obtain ⟨q, _, rfl⟩ := List.mem_map.1 hu
  rfl
theorem numVs_len (l : List Rat) : (numVs l).length = l.length := by simp [numVs]
theorem cell_heap {W W' : World} {a : Addr} (h : W.heap = W'.heap) : W.cell? a = W'.cell? a := by simp [World.cell?, h]
theorem frozen_heap {W W' : World} {a : Addr} (h : W.heap = W'.heap) : W.frozen? a = W'.frozen? a := by simp [World.frozen?, h]
/-- a copy of a list -/
def RetOwn (l : List Rat) (w : World) (e : Ending) (w' : World) : Prop := ∃ g cap, e = .returned (.slice (some ⟨g, 0, none⟩) l.length cap) ∧ w.heap.size ≤ g ∧ w'.ownsRow g 38 1 (.slice (some ⟨g, 0, none⟩) l.length cap) l.length (numVs l) ∧ Below w.heap.size w w'
set_option maxRecDepth 100000 in
set_option maxHeartbeats 1600000 in
theorem cloneN_ok (l : List Rat) (v : Value) (w : World) (hv : IsStrs w v (l.map numS)) (hl : 1 ≤ l.length) (hn : l.length ≤ 200) :
    Calls Tryz.prog 30 #[v] w (RetOwn l w) := by
  obtain ⟨a, n, cap, rfl⟩ : ∃ a n cap, v = .slice a n cap := by obtain ⟨a, cap, h, _⟩ := hv; exact ⟨_, _, _, h⟩
  obtain ⟨rfl, hc⟩ := strs_cells hv
  obtain ⟨b, off, rfl, hcl⟩ := hc (by intro h; rw [h] at hl; simp at hl)
  obtain ⟨i0, hi0, hz0, hz1, hz2⟩ := info_parts Tryz.infoNum
  have HC := Lib.hid (fun (W : World) (hB : Below w.heap.size w W) => (by
    intro j u hu
    obtain ⟨hj, rfl⟩ := numVs_get hu
    rw [addr_add]
    exact keep hB (hcl j hj) : ∀ j u, (numVs l)[j]? = some u → W.cell? (Addr.add ⟨b, off, none⟩ j) = some u))
  have hnil := fun (W : World) (a : Option Addr) (n c : Nat) => Lib.run_eql_slice_nil (P := Tryz.prog) W 27 38 a n c 0 0 Tryz.underlying27
  clear hc hcl hv
  have hrow0 : (w.alloc (.cells #[] 38)).ownsRow w.heap.size 38 1 (.slice (some ⟨w.heap.size, 0, none⟩) 0 0) 0 [] :=
    ⟨rfl, .inr ⟨_, _, _, rfl, Nat.le_refl _, World.alloc_heap_new w _, Nat.le_refl _, by unfold maxLen; omega, rfl, rfl⟩⟩
  have n1 : 0 + l.length ≤ maxLen := by unfold maxLen; omega
  have n2 : (0 + l.length) * 16 ≤ 140737488355328 := by omega
  have n3 : w.heap.size ≤ (w.alloc (.cells #[] 38)).heap.size := by simp
  have n4 : ∀ (W : World), (w.alloc (.cells #[] 38)).grownBy W (some w.heap.size) → Below w.heap.size w W := fun W h => Below.grown (below_alloc (Below.refl _ _) _) h (by simp) (fun k hk => by cases hk; exact Nat.le_refl _)
  have N := Lib.hid n1
  have N2 := Lib.hid n2
  have N3 := Lib.hid n3
  have N4 := Lib.hid n4
  have N5 := Lib.hid hrow0
  clear n1 n2 n3 n4 hrow0
  go_enter Tryz.func30, Tryz.ntmps30
  go_wp2_with (at_builtin; refine wpList_append_own _ rfl _ _ 27 rfl w.heap.size 38 i0 (.string ⟨#[]⟩) 1 16 Tryz.underlying27 hi0 hz0 hz1 hz2 rfl (by decide) _ 0 _ rfl N5.out ⟨b, off, none⟩ l.length cap (numVs l) rfl (by rw [numVs_len, Nat.mul_one]) (HC.out _ (below_alloc (Below.refl _ _) _)) numVs_one N.out N2.out N3.out ?_; intro v' w3 hown' hgrow3 hnil3; have HROW := Lib.hid hown'; have hB5 := Lib.hid (N4.out _ hgrow3); clear hown' hgrow3 hnil3; obtain ⟨sa2, sc2, rfl, _⟩ := row_shape HROW.out)
  go_ret
  have hr := HROW.out
  rw [Nat.zero_add, List.nil_append] at hr
  rcases hr.2 with ⟨_, h0⟩ | ⟨g, cap', cur, e, hb, hg, rest⟩
  · omega
  · injection e with e1 e2 e3
    subst e1 e3
    exact ⟨g, sc2, by simp, hb, ⟨hr.1, .inr ⟨g, sc2, cur, rfl, Nat.le_refl _, hg, rest⟩⟩, hB5.out⟩
/-- what is known of the list into which a number is put -/
structure InsIn (l : List Rat) (x : Rat) (g cap vb : Nat) (w : World) : Prop where
  row : w.ownsRow g 38 1 (.slice (some ⟨g, 0, none⟩) l.length cap) l.length (numVs l)
  cell : ∀ j (h : j < l.length), w.cell? ⟨g, j, none⟩ = some (.string (numS l[j]))
  some' : ∀ j, j < cap → (w.cell? ⟨g, j, none⟩).isSome = true
  froz : ∀ j, w.frozen? ⟨g, j, none⟩ = false
  cap1 : l.length ≤ cap
  cap2 : cap ≤ maxLen
  lt : g < w.heap.size
  shape : w.shape? g = some (38, cap)
  box : Boxed w vb 38 (.string (numS x))
  ne : vb ≠ g
theorem insIn_of {l : List Rat} {x : Rat} {g cap vb : Nat} {w : World} (hr : w.ownsRow g 38 1 (.slice (some ⟨g, 0, none⟩) l.length cap) l.length (numVs l)) (hb : Boxed w vb 38 (.string (numS x))) (hne : vb ≠ g) (hl : 1 ≤ l.length) : InsIn l x g cap vb w := by
  rcases hr.2 with ⟨h, _⟩ | ⟨g', cap', cur, e, _, hg, h1, h2, h3, h4⟩
  · cases h
  · injection e with e1 e2 e3
    injection e1 with e1
    injection e1 with e1
    subst e1 e3
    rw [Nat.mul_one] at h3 h4
    refine ⟨hr, fun j hj => ?_, fun j hj => ?_, fun j => ?_, h1, h2, (Array.getElem?_eq_some_iff.1 hg).1, ?_, hb, hne⟩
    · have h5 : (cur.toList.take l.length)[j]? = (numVs l)[j]? := by rw [h4]
      rw [List.getElem?_take_of_lt hj] at h5
      have h6 : cur[j]? = some (.string (numS l[j])) := by rw [← Array.getElem?_toList, h5]; simp [numVs, hj]
      simp [World.cell?, hg, h6]
    · simp [World.cell?, hg, h3, hj]
    · simp [World.frozen?, hg]
    · simp [World.shape?, hg, h3]
theorem InsIn.news {l : List Rat} {x : Rat} {g cap vb : Nat} {w : World} (h : InsIn l x g cap vb w) : ∀ j u, [Value.string (numS x)][j]? = some u → w.cell? (Addr.add ⟨vb, 0, none⟩ j) = some u := fun j u hu => by
  cases j with
  | zero => simp at hu; subst hu; exact h.box.cell
  | succ j => simp at hu
set_option maxRecDepth 100000 in
set_option maxHeartbeats 1600000 in
theorem insEnd_ok (l : List Rat) (x : Rat) (g cap vb : Nat) (w : World) (h : InsIn l x g cap vb w) (hl1 : 1 ≤ l.length) (hl : l.length ≤ 200) :
    Calls Tryz.prog 29 #[.slice (some ⟨g, 0, none⟩) l.length cap, .int .i64 l.length, .slice (some ⟨vb, 0, none⟩) 1 1] w (RetInsert l l.length x g w) := by
  obtain ⟨i0, hi0, hz0, hz1, hz2⟩ := info_parts Tryz.infoNum
  have hrow := h.row
  have hc1 := h.cap1
  have N1 := Lib.hid (show l.length + 1 ≤ maxLen by unfold maxLen; omega)
  have N2 := Lib.hid (show (l.length + 1) * 16 ≤ 140737488355328 by omega)
  have N3 := Lib.hid (Nat.le_of_lt h.lt)
  have HROW := Lib.hid hrow
  have HN := Lib.hid h.news
  have KEY := Lib.hid (fun (v' : Value) (W : World) (ho : W.ownsRow g 38 1 v' (l.length + 1) (numVs l ++ [.string (numS x)])) (hg : w.grownBy W (Value.slice (some ⟨g, 0, none⟩) l.length cap).ownBlock) => (by
    refine ⟨?_, Below.grown (Below.refl _ _) hg (Nat.le_of_lt h.lt) (fun k hk => by cases hk; exact Nat.le_refl _)⟩
    have e : insAt l l.length x = l ++ [x] := by unfold insAt; rw [List.take_length, List.drop_length]
    rw [e]
    exact isStrs_row (B := g) (by rw [List.length_append]; unfold numVs; rw [List.map_append]; exact ho) : IsStrs W v' ((insAt l l.length x).map numS) ∧ Below g w W))
  clear hrow h
  by_cases hcn : cap = l.length
  · subst hcn
    go_enter Tryz.func29, Tryz.ntmps29
    go_wp2_with (at_builtin; refine wpList_append_own _ rfl _ _ 27 rfl g 38 i0 (.string ⟨#[]⟩) 1 16 Tryz.underlying27 hi0 hz0 hz1 hz2 rfl (by decide) _ l.length _ rfl HROW.out ⟨vb, 0, none⟩ 1 1 [.string (numS x)] rfl rfl HN.out (by simp [Value.oneCell']) N1.out N2.out N3.out ?_; intro v' w3 hown' hgrow3 hnil3; have HK := Lib.hid (KEY.out v' w3 hown' hgrow3); obtain ⟨sa2, sc2, rfl, _⟩ := row_shape hown'; clear hown' hgrow3 hnil3)
    go_ret
    exact ⟨_, rfl, HK.out.1, HK.out.2⟩
  · have hcn' : ¬ l.length = cap := fun h => hcn h.symm
    go_enter Tryz.func29, Tryz.ntmps29
    go_wp2_with (at_builtin; refine wpList_append_own _ rfl _ _ 27 rfl g 38 i0 (.string ⟨#[]⟩) 1 16 Tryz.underlying27 hi0 hz0 hz1 hz2 rfl (by decide) _ l.length _ rfl HROW.out ⟨vb, 0, none⟩ 1 1 [.string (numS x)] rfl rfl HN.out (by simp [Value.oneCell']) N1.out N2.out N3.out ?_; intro v' w3 hown' hgrow3 hnil3; have HK := Lib.hid (KEY.out v' w3 hown' hgrow3); obtain ⟨sa2, sc2, rfl, _⟩ := row_shape hown'; clear hown' hgrow3 hnil3)
    go_ret
    exact ⟨_, rfl, HK.out.1, HK.out.2⟩
set_option maxRecDepth 100000 in
set_option maxHeartbeats 3200000 in
theorem insGrow_ok (l : List Rat) (x : Rat) (i g cap vb : Nat) (w : World) (h : InsIn l x g cap vb w) (hi : i < l.length) (hl : l.length ≤ 200) (hg : cap < l.length + 1) :
    Calls Tryz.prog 29 #[.slice (some ⟨g, 0, none⟩) l.length cap, .int .i64 i, .slice (some ⟨vb, 0, none⟩) 1 1] w (RetInsert l i x g w) := by
  obtain ⟨i0, hi0, hz0, hz1, hz2⟩ := info_parts Tryz.infoNum
  have hc1 := h.cap1
  have hcap : cap = l.length := by omega
  obtain ⟨k, hk⟩ : ∃ k, l.length + 1 = i + k := ⟨l.length + 1 - i, by omega⟩
  have hkI : (l.length : Int) + 1 - (i : Int) = (k : Int) := by omega
  have hold : (Builtin.firstCells i0.size i (.slice (some ⟨g, 0, none⟩) i cap)).run Tryz.prog w.drew = .ok ((numVs l).take i).toArray w.drew := by
    rw [hz1]
    refine run_firstCells_some w.drew 1 i ⟨g, 0, none⟩ i cap _ (by rw [List.length_take, numVs_len]; omega) (fun j v hj => ?_)
    rw [addr_add, Nat.zero_add]
    have hji : j < i := by
      have := (List.getElem?_eq_some_iff.1 hj).1
      rw [List.length_take] at this; omega
    rw [List.getElem?_take_of_lt hji] at hj
    obtain ⟨hj', rfl⟩ := numVs_get hj
    exact h.cell j hj'
  have hrz := fun ty => Lib.run_append_grow_zeros (P := Tryz.prog) w 27 3 ty 38 i0 (.string ⟨#[]⟩) .i64 .i64 Tryz.underlying27 Tryz.underlying3 hi0 hz0 (some ⟨g, 0, none⟩) i cap ((numVs l).take i) hold k (by omega) (by rw [hz1]; omega) (by omega) (by omega) (by rw [hz2]; omega) (by rw [hz2]; exact growslice_fits (by omega) (by omega))
  have hG1 := grownCap_ge w (i + k) cap 38
  have hG2 := grownCap_le_maxLen w (i + k) cap 38 (by unfold maxLen; omega)
  generalize grownCap w (i + k) cap 38 = G at *
  unfold maxLen at hG2
  generalize hRW : ((numVs l).take i).toArray ++ Builtin.zeroCells (Value.string ⟨#[]⟩).cells k ++ Builtin.zeroCells (Value.string ⟨#[]⟩).cells (G - (i + k)) = ROW at *
  have hRZ : ROW.size = G := by
    rw [← hRW, Array.size_append, Array.size_append, size_zeroCells, size_zeroCells, List.size_toArray, List.length_take, numVs_len, show (Value.string ⟨#[]⟩).cells.size = 1 from rfl]
    omega
  obtain ⟨W1, hW1⟩ : ∃ W1, w.drew.alloc (.cells ROW 38) = W1 := ⟨_, rfl⟩
  have hnew : W1.heap[w.heap.size]? = some (.cells ROW 38 (0, 0)) := by rw [← hW1]; exact World.alloc_heap_new w.drew _
  have hs1 : ∀ j, j < G → (W1.cell? ⟨w.heap.size, j, none⟩).isSome = true := fun j hj => by simp [World.cell?, hnew, hRZ, hj]
  have hf1 : ∀ j, W1.frozen? ⟨w.heap.size, j, none⟩ = false := fun j => by simp [World.frozen?, hnew]
  have hlo : ∀ j (hj : j < l.length), j < i → W1.cell? ⟨w.heap.size, j, none⟩ = some (.string (numS l[j])) := fun j hj hji => by
    have e : ROW[j]? = some (.string (numS l[j])) := by
      rw [← hRW, Array.getElem?_append_left (by simp [numVs_len]; omega), Array.getElem?_append_left (by simp [numVs_len]; omega)]
      simp [numVs, hji, hj]
    simp [World.cell?, hnew, e]
  have hold1 : ∀ b o, b < w.heap.size → W1.cell? ⟨b, o, none⟩ = w.cell? ⟨b, o, none⟩ := fun b o hb => by
    rw [← hW1]; exact World.cell?_of_block (heap_alloc_old w.drew _ hb)
  have hcpA : ∀ W : World, W.heap = W1.heap → ∀ ty dl dc, 1 ≤ dl → (Builtin.copy_ #[27, 27] ty #[.slice (some ⟨w.heap.size, i, none⟩) dl dc, .slice (some ⟨vb, 0, none⟩) 1 1]).run Tryz.prog W = .ok (goInt 1) (W.setCells w.heap.size i [.string (numS x)]) := fun W hW ty dl dc hdl =>
    run_copy_cells W _ _ ty 38 w.heap.size i dl dc ⟨vb, 0, none⟩ 1 1 [.string (numS x)] Tryz.underlying27 Tryz.infoNum1 (show 1 = min 1 dl by rw [Nat.min_eq_left hdl])
      (fun j u hj => by
        rw [cell_heap hW]
        have := h.news j u hj
        rw [addr_add] at this ⊢
        rw [hold1 _ _ h.box.lt]; exact this)
      (fun j hj => by rw [cell_heap hW]; exact hs1 _ (by simp at hj; omega)) (fun j hj => by rw [frozen_heap hW]; exact hf1 _) (by simp [Value.oneCell'])
  have hcpB : ∀ W : World, W.heap = (W1.setCells w.heap.size i [.string (numS x)]).heap → ∀ ty dl dc sl sc, Nat.min sl dl = l.length - i → (Builtin.copy_ #[27, 27] ty #[.slice (some ⟨w.heap.size, i + 1, none⟩) dl dc, .slice (some ⟨g, i, none⟩) sl sc]).run Tryz.prog W = .ok (goInt ((numVs l).drop i).length) (W.setCells w.heap.size (i + 1) ((numVs l).drop i)) := fun W hW ty dl dc sl sc hmin =>
    run_copy_cells W _ _ ty 38 w.heap.size (i + 1) dl dc ⟨g, i, none⟩ sl sc ((numVs l).drop i) Tryz.underlying27 Tryz.infoNum1 (by rw [hmin, List.length_drop, numVs_len])
      (fun j u hj => by
        rw [cell_heap hW, addr_add, World.cell?_setCells_out _ _ _ _ _ (fun h' => absurd h' (Nat.ne_of_lt h.lt)), hold1 _ _ h.lt]
        rw [List.getElem?_drop] at hj
        obtain ⟨hj', rfl⟩ := numVs_get hj
        exact h.cell _ hj')
      (fun j hj => by
        rw [List.length_drop, numVs_len] at hj
        rw [cell_heap hW, World.cell?_setCells_out _ _ _ _ _ (fun _ _ => by first | (simp; done) | (simp; omega))]; exact hs1 _ (by omega)) (fun j hj => by rw [frozen_heap hW, World.frozen?_setCells]; exact hf1 _) (fun u hu => numVs_one u (List.mem_of_mem_drop hu))
  have hfin : ∀ F : World, F.heap = ((W1.setCells w.heap.size i [.string (numS x)]).setCells w.heap.size (i + 1) ((numVs l).drop i)).heap → IsStrs F (.slice (some ⟨w.heap.size, 0, none⟩) (l.length + 1) G) ((insAt l i x).map numS) := fun F hF => by
    refine ins_strs (by omega) (fun j hj hji => ?_) ?_ (fun j hj hij => ?_)
    · rw [cell_heap hF, World.cell?_setCells_out _ _ _ _ _ (fun _ _ => by first | (simp; done) | (simp; omega)), World.cell?_setCells_out _ _ _ _ _ (fun _ _ => by first | (simp; done) | (simp; omega))]
      exact hlo j hj hji
    · rw [cell_heap hF, World.cell?_setCells_out _ _ _ _ _ (fun _ _ => by first | (simp; done) | (simp; omega))]
      have := World.cell?_setCells_in w.heap.size [.string (numS x)] i W1 (fun j hj => hs1 _ (by simp at hj; omega)) 0 (by simp)
      simpa using this
    · have := World.cell?_setCells_in w.heap.size ((numVs l).drop i) (i + 1) (W1.setCells w.heap.size i [.string (numS x)]) (fun j hj => by
        rw [List.length_drop, numVs_len] at hj
        rw [World.cell?_setCells_out _ _ _ _ _ (fun _ _ => by first | (simp; done) | (simp; omega))]; exact hs1 _ (by omega)) (j - i) (by rw [List.length_drop, numVs_len]; omega)
      rw [cell_heap hF, show j + 1 = i + 1 + (j - i) by omega, this]
      simp [numVs, show i + (j - i) = j by omega]
  have hBW : Below g w W1 := by rw [← hW1]; exact (below_alloc (below_drew (Nat.le_refl _)) _).mono (Nat.le_of_lt h.lt)
  have HR := Lib.hid hrz
  have HA := Lib.hid hcpA
  have HB := Lib.hid hcpB
  have HF := Lib.hid hfin
  have HBW := Lib.hid hBW
  have hlt := h.lt
  have hiI : (i : Int) < (l.length : Int) := by omega
  have hiE : ((i : Int) == (l.length : Int)) = false := by rw [beq_eq_false_iff_ne]; omega
  have hci : ¬ cap = i := by omega
  have hGi : ¬ G = i := by omega
  have hGi1 : ¬ G = i + 1 := by omega
  have hcI : (cap : Int) < (l.length : Int) + 1 := by omega
  have HW1 := Lib.hid hW1
  have hk1 : 1 ≤ k := by omega
  have hik : i + k = l.length + 1 := by omega
  have hkm : k - 1 = l.length - i := by omega
  have hkE := Lib.hid hk
  clear hrz hcpA hcpB hfin hBW hW1 hold hRW hRZ hnew hs1 hf1 hlo hold1 h hk hcap
  go_enter Tryz.func29, Tryz.ntmps29
  go_upto_region 10 with (at_builtin; refine Lib.wpList_append_run _ rfl _ _ _ _ rfl _ _ rfl rfl _ _ (HR.out _) ?_)
  go_wp2_with (refine wpList_copyN (o := ⟨some 45, _, _, _, _, _⟩) _ rfl _ _ 27 27 rfl _ _ rfl rfl (HA.out _ (congrArg World.heap HW1.out) _ _ _ (by omega)) ?_)
  have hw1 : IntKind.i64.wrap ((i : Int) + 1) = (i : Int) + 1 := IntWalk.i64_in _ (by omega)
  have hb1 : 0 ≤ (i : Int) + 1 := by omega
  have htn : ((i : Int) + 1).toNat = i + 1 := by omega
  have hb3 : (i : Int) + 1 ≤ (l.length : Int) + 1 := by omega
  have hb4 : (i : Int) ≤ (l.length : Int) := by omega
  have hR : ((w.drew.alloc (.cells ROW 38)).setCells w.heap.size i [.string (numS x)]).drew.heap = (W1.setCells w.heap.size i [.string (numS x)]).heap ∧ Below g w ((w.drew.alloc (.cells ROW 38)).setCells w.heap.size i [.string (numS x)]).drew := by
    rw [HW1.out]
    have h1 := HBW.out.trans (below_setCells W1 w.heap.size i [.string (numS x)] (Nat.le_of_lt hlt))
    exact ⟨rfl, h1.trans (below_drew (by have := h1.size; omega))⟩
  refine region_S (F := [8]) (R := (fun w' => w'.heap = (W1.setCells w.heap.size i [.string (numS x)]).heap ∧ Below g w w')) 9 #[false, false, false, false, false, false, false, false, false] (by kernel_rfl) (by kernel_rfl) (by kernel_rfl) (fun _ _ _ _ _ h => h) (fun Q' hQ' hN => ?_)
  generalize ((w.drew.alloc (.cells ROW 38)).setCells w.heap.size i [.string (numS x)]).drew = wz at *
  refine takeS 46 (i := 0) (v := ?_) (fw := 4) hQ' hR rfl (by kernel_rfl) (by kernel_rfl) (by kernel_rfl) (by kernel_rfl) (by kernel_rfl) (by kernel_rfl) ?_ ?_; rotate_left; (focus (intro wq hRq; go_simp; (try with_reducible rfl))); (try simp only [Act.put, List.setIfInBounds_toArray, List.set_cons_zero, List.set_cons_succ])
  refine takeS 47 (i := 1) (v := ?_) (fw := 4) hQ' hR rfl (by kernel_rfl) (by kernel_rfl) (by kernel_rfl) (by kernel_rfl) (by kernel_rfl) (by kernel_rfl) ?_ ?_; rotate_left; (focus (intro wq hRq; go_simp; (try with_reducible rfl))); (try simp only [Act.put, List.setIfInBounds_toArray, List.set_cons_zero, List.set_cons_succ])
  refine takeS 48 (i := 2) (v := ?_) (fw := 4) hQ' hR rfl (by kernel_rfl) (by kernel_rfl) (by kernel_rfl) (by kernel_rfl) (by kernel_rfl) (by kernel_rfl) ?_ ?_; rotate_left; (focus (intro wq hRq; go_simp; (try with_reducible rfl))); (try simp only [Act.put, List.setIfInBounds_toArray, List.set_cons_zero, List.set_cons_succ])
  refine takeS 49 (i := 3) (v := ?_) (fw := 4) hQ' hR rfl (by kernel_rfl) (by kernel_rfl) (by kernel_rfl) (by kernel_rfl) (by kernel_rfl) (by kernel_rfl) ?_ ?_; rotate_left; (focus (intro wq hRq; go_simp; (try with_reducible rfl))); (try simp only [Act.put, List.setIfInBounds_toArray, List.set_cons_zero, List.set_cons_succ])
  refine takeS 50 (i := 4) (v := ?_) (fw := 4) hQ' hR rfl (by kernel_rfl) (by kernel_rfl) (by kernel_rfl) (by kernel_rfl) (by kernel_rfl) (by kernel_rfl) ?_ ?_; rotate_left; (focus (intro wq hRq; go_simp; (try with_reducible rfl))); (try simp only [Act.put, List.setIfInBounds_toArray, List.set_cons_zero, List.set_cons_succ])
  refine takeS 51 (i := 5) (v := ?_) (fw := 4) hQ' hR rfl (by kernel_rfl) (by kernel_rfl) (by kernel_rfl) (by kernel_rfl) (by kernel_rfl) (by kernel_rfl) ?_ ?_; rotate_left; (focus (intro wq hRq; go_simp; (try with_reducible rfl))); (try simp only [Act.put, List.setIfInBounds_toArray, List.set_cons_zero, List.set_cons_succ])
  refine takeS 52 (i := 6) (v := ?_) (fw := 4) hQ' hR rfl (by kernel_rfl) (by kernel_rfl) (by kernel_rfl) (by kernel_rfl) (by kernel_rfl) (by kernel_rfl) ?_ ?_; rotate_left; (focus (intro wq hRq; go_simp; (try with_reducible rfl))); (try simp only [Act.put, List.setIfInBounds_toArray, List.set_cons_zero, List.set_cons_succ])
  refine takeS 53 (i := 7) (v := ?_) (fw := 4) hQ' hR rfl (by kernel_rfl) (by kernel_rfl) (by kernel_rfl) (by kernel_rfl) (by kernel_rfl) (by kernel_rfl) ?_ ?_; rotate_left; (focus (intro wq hRq; go_simp; (try with_reducible rfl))); (try simp only [Act.put, List.setIfInBounds_toArray, List.set_cons_zero, List.set_cons_succ])
  refine wpAnyS_ready (rs := [8]) (by kernel_rfl) (by simp) ?_
  refine stepF (i := 8) rfl (by kernel_rfl) (by kernel_rfl) (fun K hK => ?_) (AllReadyS.nil)
  refine wp_copyN _ _ _ 27 27 rfl _ _ rfl rfl (HB.out _ hR.1 _ _ _ _ _ (by first | omega | (show min _ _ = _; omega) | (simp; done) | (simp; omega))) ?_
  refine hK.out _ _ ?_
  clear hK K
  (try simp only [Act.put, List.setIfInBounds_toArray, List.set_cons_zero, List.set_cons_succ])
  refine wpAnyS_done (by kernel_rfl) ?_ _
  refine hN.out _ _ ?_
  go_wp2_with fail
  go_ret
  exact ⟨_, rfl, HF.out _ (setCells_heap _ _ _ hR.1), hR.2.trans (below_setCells _ _ _ _ (Nat.le_of_lt hlt))⟩
set_option maxRecDepth 100000 in
set_option maxHeartbeats 3200000 in
theorem insRoom_ok (l : List Rat) (x : Rat) (i g cap vb : Nat) (w : World) (h : InsIn l x g cap vb w) (hi : i < l.length) (hl : l.length ≤ 200) (hg : l.length + 1 ≤ cap) :
    Calls Tryz.prog 29 #[.slice (some ⟨g, 0, none⟩) l.length cap, .int .i64 i, .slice (some ⟨vb, 0, none⟩) 1 1] w (RetInsert l i x g w) := by
  obtain ⟨i0, hi0, hz0, hz1, hz2⟩ := info_parts Tryz.infoNum
  have hc2 := h.cap2
  unfold maxLen at hc2
  have hsz : ∀ W, (Go.sizeOf 38).run Tryz.prog W = .ok 1 W := fun W => by simp [sizeOf, typeInfo, hi0, hz1]
  have hsA : w.shape? vb = some (38, 1) := by simp [World.shape?, show w.heap[vb]? = _ from h.box]
  have hfE : w.frozen? { block := vb, off := 1 } = false := by simp [World.frozen?, show w.heap[vb]? = _ from h.box]
  have hov : ∀ lb cb, (callFunc 72 #[.slice (some ⟨vb, 0, none⟩) 1 1, .slice (some ⟨g, i + 1, none⟩) lb cb]).run Tryz.prog w = .ok (.value (.bool false)) w := fun lb cb => by
    rw [run_callFunc_extern Tryz.func72 (by kernel_rfl) (by kernel_rfl) (by kernel_rfl) (e := Extern.SlicesOverlaps.overlaps #[27, 27] #[4]) (by kernel_rfl),
      Lib.run_overlaps_apart w 27 4 38 Tryz.underlying27 1 hsz ⟨vb, 0, none⟩ ⟨g, i + 1, none⟩ 1 1 lb cb h.ne 38 38 1 cap hsA h.shape (by omega) h.box.frozen hfE]
    rfl
  have hcpB : ∀ W : World, W.heap = w.heap → ∀ ty dl dc sl sc, Nat.min sl dl = l.length - i → (Builtin.copy_ #[27, 27] ty #[.slice (some ⟨g, i + 1, none⟩) dl dc, .slice (some ⟨g, i, none⟩) sl sc]).run Tryz.prog W = .ok (goInt ((numVs l).drop i).length) (W.setCells g (i + 1) ((numVs l).drop i)) := fun W hW ty dl dc sl sc hmin =>
    run_copy_cells W _ _ ty 38 g (i + 1) dl dc ⟨g, i, none⟩ sl sc ((numVs l).drop i) Tryz.underlying27 Tryz.infoNum1 (by rw [hmin, List.length_drop, numVs_len])
      (fun j u hj => by
        rw [cell_heap hW, addr_add]
        rw [List.getElem?_drop] at hj
        obtain ⟨hj', rfl⟩ := numVs_get hj
        exact h.cell _ hj')
      (fun j hj => by
        rw [List.length_drop, numVs_len] at hj
        rw [cell_heap hW]; exact h.some' _ (by omega)) (fun j hj => by rw [frozen_heap hW]; exact h.froz _) (fun u hu => numVs_one u (List.mem_of_mem_drop hu))
  have hcpA : ∀ W : World, W.heap = (w.setCells g (i + 1) ((numVs l).drop i)).heap → ∀ ty dl dc, 1 ≤ dl → (Builtin.copy_ #[27, 27] ty #[.slice (some ⟨g, i, none⟩) dl dc, .slice (some ⟨vb, 0, none⟩) 1 1]).run Tryz.prog W = .ok (goInt 1) (W.setCells g i [.string (numS x)]) := fun W hW ty dl dc hdl =>
    run_copy_cells W _ _ ty 38 g i dl dc ⟨vb, 0, none⟩ 1 1 [.string (numS x)] Tryz.underlying27 Tryz.infoNum1 (show 1 = min 1 dl by rw [Nat.min_eq_left hdl])
      (fun j u hj => by
        have := h.news j u hj
        rw [addr_add] at this ⊢
        rw [cell_heap hW, World.cell?_setCells_out _ _ _ _ _ (fun h' => absurd h' h.ne)]; exact this)
      (fun j hj => by
        rw [cell_heap hW, World.cell?_setCells_out _ _ _ _ _ (fun _ _ => by simp at hj; first | (simp; done) | (simp; omega))]; exact h.some' _ (by simp at hj; omega)) (fun j hj => by rw [frozen_heap hW, World.frozen?_setCells]; exact h.froz _) (by simp [Value.oneCell'])
  have hfin : ∀ F : World, F.heap = ((w.setCells g (i + 1) ((numVs l).drop i)).setCells g i [.string (numS x)]).heap → IsStrs F (.slice (some ⟨g, 0, none⟩) (l.length + 1) cap) ((insAt l i x).map numS) := fun F hF => by
    refine ins_strs (by omega) (fun j hj hji => ?_) ?_ (fun j hj hij => ?_)
    · rw [cell_heap hF, World.cell?_setCells_out _ _ _ _ _ (fun _ _ => by first | (simp; done) | (simp; omega)), World.cell?_setCells_out _ _ _ _ _ (fun _ _ => by first | (simp; done) | (simp; omega))]
      exact h.cell j hj
    · rw [cell_heap hF]
      have := World.cell?_setCells_in g [.string (numS x)] i (w.setCells g (i + 1) ((numVs l).drop i)) (fun j hj => by
        rw [World.cell?_setCells_out _ _ _ _ _ (fun _ _ => by simp at hj; first | (simp; done) | (simp; omega))]; exact h.some' _ (by simp at hj; omega)) 0 (by simp)
      simpa using this
    · rw [cell_heap hF, World.cell?_setCells_out _ _ _ _ _ (fun _ _ => by first | (simp; done) | (simp; omega))]
      have := World.cell?_setCells_in g ((numVs l).drop i) (i + 1) w (fun j hj => by
        rw [List.length_drop, numVs_len] at hj
        exact h.some' _ (by omega)) (j - i) (by rw [List.length_drop, numVs_len]; omega)
      rw [show j + 1 = i + 1 + (j - i) by omega, this]
      simp [numVs, show i + (j - i) = j by omega]
  have HOV := hov
  have HA := Lib.hid hcpA
  have HB := Lib.hid hcpB
  have HF := Lib.hid hfin
  have hlt := h.lt
  have hiI : (i : Int) < (l.length : Int) := by omega
  have hiE : ((i : Int) == (l.length : Int)) = false := by rw [beq_eq_false_iff_ne]; omega
  have hci : ¬ cap = i := by omega
  have hci1 : ¬ cap = i + 1 := by omega
  have hcI : ¬ (cap : Int) < (l.length : Int) + 1 := by omega
  have hw1 : IntKind.i64.wrap ((i : Int) + 1) = (i : Int) + 1 := IntWalk.i64_in _ (by omega)
  have hb1 : 0 ≤ (i : Int) + 1 := by omega
  have htn : ((i : Int) + 1).toNat = i + 1 := by omega
  have hb3 : (i : Int) + 1 ≤ (l.length : Int) + 1 := by omega
  have hb4 : (i : Int) ≤ (l.length : Int) + 1 := by omega
  have hb5 : (l.length : Int) + 1 ≤ (cap : Int) := by omega
  clear hov hcpA hcpB hfin h hsA hfE hsz
  go_enter Tryz.func29, Tryz.ntmps29
  go_wp2_with fail
  have hR : w.drew.heap = w.heap ∧ Below g w w.drew := ⟨rfl, below_drew (Nat.le_of_lt hlt)⟩
  refine region_S (F := [8]) (R := (fun w' => w'.heap = w.heap ∧ Below g w w')) 9 #[false, false, false, false, false, false, false, false, false] (by kernel_rfl) (by kernel_rfl) (by kernel_rfl) (fun _ _ _ _ _ h => h) (fun Q' hQ' hN => ?_)
  generalize w.drew = wz at *
  refine takeS 69 (i := 0) (v := ?_) (fw := 4) hQ' hR rfl (by kernel_rfl) (by kernel_rfl) (by kernel_rfl) (by kernel_rfl) (by kernel_rfl) (by kernel_rfl) ?_ ?_; rotate_left; (focus (intro wq hRq; go_simp; (try with_reducible rfl))); (try simp only [Act.put, List.setIfInBounds_toArray, List.set_cons_zero, List.set_cons_succ])
  refine takeS 70 (i := 1) (v := ?_) (fw := 4) hQ' hR rfl (by kernel_rfl) (by kernel_rfl) (by kernel_rfl) (by kernel_rfl) (by kernel_rfl) (by kernel_rfl) ?_ ?_; rotate_left; (focus (intro wq hRq; go_simp; (try with_reducible rfl))); (try simp only [Act.put, List.setIfInBounds_toArray, List.set_cons_zero, List.set_cons_succ])
  refine takeS 71 (i := 2) (v := ?_) (fw := 4) hQ' hR rfl (by kernel_rfl) (by kernel_rfl) (by kernel_rfl) (by kernel_rfl) (by kernel_rfl) (by kernel_rfl) ?_ ?_; rotate_left; (focus (intro wq hRq; go_simp; (try with_reducible rfl))); (try simp only [Act.put, List.setIfInBounds_toArray, List.set_cons_zero, List.set_cons_succ])
  refine takeS 72 (i := 3) (v := ?_) (fw := 4) hQ' hR rfl (by kernel_rfl) (by kernel_rfl) (by kernel_rfl) (by kernel_rfl) (by kernel_rfl) (by kernel_rfl) ?_ ?_; rotate_left; (focus (intro wq hRq; go_simp; (try with_reducible rfl))); (try simp only [Act.put, List.setIfInBounds_toArray, List.set_cons_zero, List.set_cons_succ])
  refine takeS 73 (i := 4) (v := ?_) (fw := 4) hQ' hR rfl (by kernel_rfl) (by kernel_rfl) (by kernel_rfl) (by kernel_rfl) (by kernel_rfl) (by kernel_rfl) ?_ ?_; rotate_left; (focus (intro wq hRq; go_simp; (try with_reducible rfl))); (try simp only [Act.put, List.setIfInBounds_toArray, List.set_cons_zero, List.set_cons_succ])
  refine takeS 74 (i := 5) (v := ?_) (fw := 4) hQ' hR rfl (by kernel_rfl) (by kernel_rfl) (by kernel_rfl) (by kernel_rfl) (by kernel_rfl) (by kernel_rfl) ?_ ?_; rotate_left; (focus (intro wq hRq; go_simp; (try with_reducible rfl))); (try simp only [Act.put, List.setIfInBounds_toArray, List.set_cons_zero, List.set_cons_succ])
  refine takeS 75 (i := 6) (v := ?_) (fw := 4) hQ' hR rfl (by kernel_rfl) (by kernel_rfl) (by kernel_rfl) (by kernel_rfl) (by kernel_rfl) (by kernel_rfl) ?_ ?_; rotate_left; (focus (intro wq hRq; go_simp; (try with_reducible rfl))); (try simp only [Act.put, List.setIfInBounds_toArray, List.set_cons_zero, List.set_cons_succ])
  refine takeS 76 (i := 7) (v := ?_) (fw := 4) hQ' hR rfl (by kernel_rfl) (by kernel_rfl) (by kernel_rfl) (by kernel_rfl) (by kernel_rfl) (by kernel_rfl) ?_ ?_; rotate_left; (focus (intro wq hRq; go_simp; (try with_reducible rfl))); (try simp only [Act.put, List.setIfInBounds_toArray, List.set_cons_zero, List.set_cons_succ])
  refine wpAnyS_ready (rs := [8]) (by kernel_rfl) (by simp) ?_
  refine stepF (i := 8) rfl (by kernel_rfl) (by kernel_rfl) (fun K hK => ?_) (AllReadyS.nil)
  refine wp_copyN _ _ _ 27 27 rfl _ _ rfl rfl (HB.out _ hR.1 _ _ _ _ _ (by first | omega | (show min _ _ = _; omega) | (simp; done) | (simp; omega))) ?_
  refine hK.out _ _ ?_
  clear hK K
  (try simp only [Act.put, List.setIfInBounds_toArray, List.set_cons_zero, List.set_cons_succ])
  refine wpAnyS_done (by kernel_rfl) ?_ _
  refine hN.out _ _ ?_
  have hX := setCells_heap g (i + 1) ((numVs l).drop i) hR.1
  have hBX := hR.2.trans (below_setCells wz g (i + 1) ((numVs l).drop i) (Nat.le_refl _))
  generalize wz.setCells g (i + 1) ((numVs l).drop i) = W2 at *
  have HX := Lib.hid hX
  clear hX hR
  go_wp2_with (refine wpList_copyN (o := ⟨some 82, _, _, _, _, _⟩) _ rfl _ _ 27 27 rfl _ _ rfl rfl (HA.out _ HX.out _ _ _ (by omega)) ?_)
  go_ret
  exact ⟨_, rfl, HF.out _ (setCells_heap _ _ _ HX.out), hBX.trans (below_setCells _ _ _ _ (Nat.le_refl _))⟩
theorem insert_ok (l : List Rat) (x : Rat) (i g cap vb : Nat) (w : World) (h : InsIn l x g cap vb w) (hi : i ≤ l.length) (hl1 : 1 ≤ l.length) (hl : l.length ≤ 200) :
    Calls Tryz.prog 29 #[.slice (some ⟨g, 0, none⟩) l.length cap, .int .i64 i, .slice (some ⟨vb, 0, none⟩) 1 1] w (RetInsert l i x g w) := by
  by_cases h1 : i = l.length
  · subst h1
    exact insEnd_ok l x g cap vb w h hl1 hl
  · by_cases h2 : cap < l.length + 1
    · exact insGrow_ok l x i g cap vb w h (by omega) hl h2
    · exact insRoom_ok l x i g cap vb w h (by omega) hl (by omega)
end Go.Proofs.YtjpigaobeegbgaaGreatDoor
