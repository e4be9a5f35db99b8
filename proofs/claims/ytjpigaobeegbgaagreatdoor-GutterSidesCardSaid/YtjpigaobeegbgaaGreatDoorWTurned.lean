/- Plain: a plan whose pitches and overhangs are others is valid, too. Walk: slices.Clone at a ring. -/
import Derived.Test.YtjpigaobeegbgaaGreatDoorWEven
import Derived.Maps.AppendAt
import Derived.WalkSpells
set_option linter.unusedVariables false
set_option linter.unusedSimpArgs false
namespace Go.Proofs.YtjpigaobeegbgaaGreatDoor
open Go.RowKit Go.Shelf
/-- a side with another pitch and another overhang, unless it is a gable -/
def modS (rs : Int) (s : Side) : Side := if s.gable then s else { s with rise := rs, run := 1, over := 3 }
theorem modS_x (rs : Int) (s : Side) : (modS rs s).x = s.x := by unfold modS; split <;> rfl
theorem modS_y (rs : Int) (s : Side) : (modS rs s).y = s.y := by unfold modS; split <;> rfl
theorem modS_gable (rs : Int) (s : Side) : (modS rs s).gable = s.gable := by unfold modS; split <;> rfl
theorem modS_plate (rs : Int) (s : Side) : (modS rs s).plate = s.plate := by unfold modS; split <;> rfl
theorem modS_ran {rs : Int} {s : Side} (h : RSide s) (h1 : 1 ≤ rs) (h2 : rs ≤ 48) : RSide (modS rs s) := by
  unfold modS
  split
  · exact h
  · rename_i hg
    obtain ⟨a, b, c, d, e⟩ := h
    refine ⟨a, b, c, ⟨by show (0 : Int) ≤ 3; omega, by show (3 : Int) ≤ 65536; omega⟩, ?_⟩
    have hg' : s.gable = false := by simpa using hg
    show if s.gable then _ else _
    rw [hg']
    exact ⟨⟨h1, h2⟩, ⟨by show (1 : Int) ≤ 1; omega, by show (1 : Int) ≤ 48; omega⟩⟩
def modR (rs : Int) (l : Ring) : Ring := l.map (modS rs)
theorem modR_length (rs : Int) (l : Ring) : (modR rs l).length = l.length := by simp [modR]
theorem sd_modR {rs : Int} {l : Ring} {i : Nat} (h : i < l.length) : sd (modR rs l) i = modS rs (sd l i) := by
  rw [sd_eq (by rw [modR_length]; exact h), sd_eq h]; simp [modR]
def modP (rs : Int) (P : List Ring) : List Ring := P.map (modR rs)
theorem modP_length (rs : Int) (P : List Ring) : (modP rs P).length = P.length := by simp [modP]
theorem rg_modP (rs : Int) (P : List Ring) (r : Nat) : rg (modP rs P) r = modR rs (rg P r) := by
  unfold rg modP
  rw [List.getD_eq_getElem?_getD, List.getD_eq_getElem?_getD, List.getElem?_map]
  cases P[r]? <;> simp [modR]
section
variable {rs : Int} {l : Ring} {i : Nat}
theorem nx_modR (h : i < l.length) : nx (modR rs l) i = modS rs (nx l i) := by
  unfold nx; rw [modR_length]; exact sd_modR (nxi_lt h)
theorem pv_modR (h : i < l.length) : pv (modR rs l) i = modS rs (pv l i) := by
  unfold pv; rw [modR_length]; exact sd_modR (pvi_lt h)
theorem dirx_modR (h : i < l.length) : dirx (modR rs l) i = dirx l i := by unfold dirx; rw [nx_modR h, sd_modR h, modS_x, modS_x]
theorem diry_modR (h : i < l.length) : diry (modR rs l) i = diry l i := by unfold diry; rw [nx_modR h, sd_modR h, modS_y, modS_y]
theorem turn_modR (h : i < l.length) : turn (modR rs l) i = turn l i := by
  unfold turn; rw [modR_length, dirx_modR (pvi_lt h), diry_modR h, diry_modR (pvi_lt h), dirx_modR h]
theorem shaped_modR (h : Shaped l) : Shaped (modR rs l) := by
  refine ⟨by rw [modR_length]; exact h.1, fun i hi => ?_⟩
  rw [modR_length] at hi
  have := h.2 i hi
  unfold OkAt at this ⊢
  rw [dirx_modR hi, diry_modR hi, turn_modR hi]
  exact this
theorem twiceTo_modR : ∀ k, k ≤ l.length → twiceTo (modR rs l) k = twiceTo l k := by
  intro k
  induction k with
  | zero => intro _; rfl
  | succ k ih =>
    intro hk
    simp only [twiceTo]
    rw [ih (by omega), nx_modR (by omega), sd_modR (by omega)]
    unfold cro
    rw [modS_x, modS_x, modS_y, modS_y]
theorem twice_modR : twice (modR rs l) = twice l := by unfold twice; rw [modR_length]; exact twiceTo_modR _ (Nat.le_refl _)
theorem hit_modR {x y : Int} (h : i < l.length) : Hit (modR rs l) x y i ↔ Hit l x y i := by
  unfold Hit; rw [nx_modR h, sd_modR h, modS_x, modS_x, modS_y, modS_y]
theorem insTo_modR {x y : Int} : ∀ k, k ≤ l.length → insTo (modR rs l) x y k = insTo l x y k := by
  intro k
  induction k with
  | zero => intro _; rfl
  | succ k ih =>
    intro hk
    simp only [insTo]
    rw [ih (by omega)]
    by_cases h : Hit l x y k
    · rw [if_pos h, if_pos ((hit_modR (by omega)).2 h)]
    · rw [if_neg h, if_neg (fun h' => h ((hit_modR (by omega)).1 h'))]
theorem inside_modR {x y : Int} : insideB (modR rs l) x y = insideB l x y := by unfold insideB; rw [modR_length]; exact insTo_modR _ (Nat.le_refl _)
end
theorem total_modP (rs : Int) (P : List Ring) : ∀ k, total (modP rs P) k = total P k := by
  intro k
  induction k with
  | zero => rfl
  | succ k ih => simp only [total]; rw [ih, rg_modP, modR_length]
theorem touch_mod {rs : Int} {a a' b b' : Side} : Touch (modS rs a) (modS rs a') (modS rs b) (modS rs b') ↔ Touch a a' b b' := by
  unfold Touch; simp only [modS_x, modS_y]
theorem valid_modP {rs : Int} {P : List Ring} (h : Valid P) (h1 : 1 ≤ rs) (h2 : rs ≤ 48) : Valid (modP rs P) where
  ne := by intro h0; have := congrArg List.length h0; rw [modP_length] at this; exact h.ne (List.length_eq_zero_iff.1 (by simpa using this))
  nes := fun r hr => by
    rw [modP_length] at hr
    rw [rg_modP]
    intro h0
    have := congrArg List.length h0
    rw [modR_length] at this
    exact h.nes r hr (List.length_eq_zero_iff.1 (by simpa using this))
  tot := by rw [modP_length, total_modP]; exact h.tot
  ran := fun r hr i hi => by
    rw [modP_length] at hr
    rw [rg_modP] at hi ⊢
    rw [modR_length] at hi
    rw [sd_modR hi]
    exact modS_ran (h.ran r hr i hi) h1 h2
  shp := fun r hr => by
    rw [modP_length] at hr
    rw [rg_modP]
    exact shaped_modR (h.shp r hr)
  crs := by
    rintro ⟨r, i, s, k, hr, hi, hrs, hs, hk, hm⟩
    rw [modP_length] at hr hs
    rw [rg_modP, modR_length] at hi hk
    refine h.crs ⟨r, i, s, k, hr, hi, hrs, hs, hk, ?_⟩
    unfold Meet Skip at hm ⊢
    simp only [rg_modP, modR_length] at hm
    rw [sd_modR hi, sd_modR hk, nx_modR hi, nx_modR hk, touch_mod] at hm
    exact hm
  plc := by
    refine ⟨by rw [rg_modP, twice_modR]; exact h.plc.1, fun r h1 h2 => ?_⟩
    rw [modP_length] at h2
    obtain ⟨a, b⟩ := h.plc.2 r h1 h2
    rw [rg_modP, twice_modR]
    refine ⟨a, fun s hs hne => ?_⟩
    rw [modP_length] at hs
    rw [rg_modP, inside_modR, sd_modR (List.length_pos_iff.2 (h.nes r h2)), modS_x, modS_y]
    exact b s hs hne
  rfx := by
    obtain ⟨a, r, i, hr, hi, hg⟩ := h.rfx
    refine ⟨fun r hr i hi => ?_, r, i, by rw [modP_length]; exact hr, by rw [rg_modP, modR_length]; exact hi, by rw [rg_modP, sd_modR hi, modS_gable]; exact hg⟩
    rw [modP_length] at hr
    rw [rg_modP] at hi ⊢
    rw [modR_length] at hi
    have := a r hr i hi
    unfold Bad at this ⊢
    rw [turn_modR hi, pv_modR hi, sd_modR hi, modS_gable, modS_gable, modS_plate, modS_plate]
    exact this
theorem eLo_mod {rs : Int} {B C : Side} : eLo (modS rs B) (modS rs C) = eLo B C := by unfold eLo; simp only [modS_x, modS_y]
theorem eHi_mod {rs : Int} {B C : Side} : eHi (modS rs B) (modS rs C) = eHi B C := by unfold eHi; simp only [modS_x, modS_y]
/-- the place of the plan that was turned -/
theorem AtSide.mod {rs : Int} {P : List Ring} {i r0 i0 : Nat} {lo hi : Int} (h : AtSide P i r0 i0 lo hi) : AtSide (modP rs P) i r0 i0 lo hi where
  hr := by rw [modP_length]; exact h.hr
  hi0 := by rw [rg_modP, modR_length]; exact h.hi0
  at_ := by rw [total_modP]; exact h.at_
  gab := by rw [rg_modP, sd_modR h.hi0, modS_gable]; exact h.gab
  lo_ := by rw [rg_modP, sd_modR h.hi0, nx_modR h.hi0, eLo_mod]; exact h.lo_
  hi_ := by rw [rg_modP, sd_modR h.hi0, nx_modR h.hi0, eHi_mod]; exact h.hi_
  l0 := h.l0
  lh := h.lh
  h2 := h.h2
/-! a ring in a block of its own -/
def OwnBlk (W : World) (g : Nat) : Prop := ∃ cur, W.heap[g]? = some (.cells cur 65 (0, 0))
theorem OwnBlk.lt {W : World} {g : Nat} (h : OwnBlk W g) : g < W.heap.size := by obtain ⟨_, h⟩ := h; exact (Array.getElem?_eq_some_iff.1 h).1
theorem OwnBlk.frozen {W : World} {g o : Nat} (h : OwnBlk W g) : W.frozen? ⟨g, o, none⟩ = false := by obtain ⟨_, h⟩ := h; simp [World.frozen?, h]
theorem OwnBlk.set {W : World} {g o : Nat} {v : Value} (h : OwnBlk W g) : OwnBlk (W.setCell ⟨g, o, none⟩ v) g := by obtain ⟨_, h⟩ := h; exact ⟨_, heap_setCell_at h⟩
theorem OwnBlk.of {W W' : World} {g : Nat} (h : OwnBlk W g) (hb : W'.heap[g]? = W.heap[g]?) : OwnBlk W' g := by obtain ⟨c, h⟩ := h; exact ⟨c, hb.trans h⟩
theorem SideAt.of {W W' : World} {b o : Nat} {s : Side} (h : SideAt W b o s) (hb : W'.heap[b]? = W.heap[b]?) : SideAt W' b o s := by
  have hc : ∀ o, W'.cell? ⟨b, o, none⟩ = W.cell? ⟨b, o, none⟩ := fun o => World.cell?_of_block hb
  unfold SideAt at *
  simpa only [hc] using h
theorem SideAt.set3 {W : World} {g k : Nat} {s : Side} {rs : Int} (h : SideAt W g (k * 7) s) (hg : s.gable = false) :
    SideAt (((W.setCell ⟨g, k * 7 + 2, none⟩ (.int .i64 rs)).setCell ⟨g, k * 7 + 3, none⟩ (.int .i64 1)).setCell ⟨g, k * 7 + 6, none⟩ (.int .i64 3)) g (k * 7) (modS rs s) := by
  obtain ⟨h0, h1, h2, h3, h4, h5, h6⟩ := h
  have e : modS rs s = { s with rise := rs, run := 1, over := 3 } := by unfold modS; rw [hg]; rfl
  rw [e]
  unfold SideAt
  simp [World.cell?_setCell_other, World.cell?_setCell_same', h0, h1, h2, h3, h4, h5, h6]
theorem SideAt.out3 {W : World} {g k j : Nat} {s : Side} {u v x : Value} (h : SideAt W g (j * 7) s) (hne : j ≠ k) :
    SideAt (((W.setCell ⟨g, k * 7 + 2, none⟩ u).setCell ⟨g, k * 7 + 3, none⟩ v).setCell ⟨g, k * 7 + 6, none⟩ x) g (j * 7) s := by
  have key : ∀ f, f < 7 → ((((W.setCell ⟨g, k * 7 + 2, none⟩ u).setCell ⟨g, k * 7 + 3, none⟩ v).setCell ⟨g, k * 7 + 6, none⟩ x)).cell? ⟨g, j * 7 + f, none⟩ = W.cell? ⟨g, j * 7 + f, none⟩ := by
    intro f hf
    have n2 : (⟨g, k * 7 + 2, none⟩ : Addr) ≠ ⟨g, j * 7 + f, none⟩ := by intro h; injection h; omega
    have n3 : (⟨g, k * 7 + 3, none⟩ : Addr) ≠ ⟨g, j * 7 + f, none⟩ := by intro h; injection h; omega
    have n6 : (⟨g, k * 7 + 6, none⟩ : Addr) ≠ ⟨g, j * 7 + f, none⟩ := by intro h; injection h; omega
    rw [World.cell?_setCell_other (h := n6), World.cell?_setCell_other (h := n3), World.cell?_setCell_other (h := n2)]
  obtain ⟨h0, h1, h2, h3, h4, h5, h6⟩ := h
  exact ⟨(key 0 (by omega)).trans h0, (key 1 (by omega)).trans h1, (key 2 (by omega)).trans h2, (key 3 (by omega)).trans h3, (key 4 (by omega)).trans h4, (key 5 (by omega)).trans h5, (key 6 (by omega)).trans h6⟩
theorem sameBut_set3 (W : World) (g a b c : Nat) (u v x : Value) : SameBut g W (((W.setCell ⟨g, a, none⟩ u).setCell ⟨g, b, none⟩ v).setCell ⟨g, c, none⟩ x) :=
  ((sameBut_setCell _ _ _ _).trans (sameBut_setCell _ _ _ _)).trans (sameBut_setCell _ _ _ _)
/-- a copy of a ring, in a block of its own -/
def RetClone (l : Ring) (w : World) (e : Ending) (w' : World) : Prop := ∃ g cap, e = .returned (.slice (some ⟨g, 0, none⟩) l.length cap) ∧ w.heap.size ≤ g ∧ OwnBlk w' g ∧ (∀ k, k < l.length → SideAt w' g (k * 7) (sd l k)) ∧ Below w.heap.size w w'
theorem row_own {W : World} {B : Nat} {v : Value} {l : Ring} (h : W.ownsRow B 65 7 v l.length (ringCells l)) (hl : l ≠ []) : ∃ g cap, v = .slice (some ⟨g, 0, none⟩) l.length cap ∧ B ≤ g ∧ OwnBlk W g ∧ ∀ k, k < l.length → SideAt W g (k * 7) (sd l k) := by
  have hr := isRing_row h
  rcases h.2 with ⟨rfl, h0⟩ | ⟨g, cap, cur, rfl, hb, hg, _⟩
  · exact absurd (List.length_eq_zero_iff.1 h0) hl
  · obtain ⟨b, off, cap', e, hc⟩ := hr.nonempty hl
    cases e
    exact ⟨_, _, rfl, hb, ⟨_, hg⟩, fun k hk => by have := hc k hk; rwa [Nat.zero_add] at this⟩
set_option maxRecDepth 100000 in
set_option maxHeartbeats 1600000 in
theorem clone_ok (l : Ring) (v : Value) (w : World) (hv : IsRing w v l) (hl : l ≠ []) (hn : l.length ≤ 24) :
    Calls Tryz.prog 22 #[v] w (RetClone l w) := by
  obtain ⟨b, off, cap, rfl, hc⟩ := hv.nonempty hl
  obtain ⟨i0, hi0, hz0, hz1, hz2⟩ := info_parts Tryz.infoSide
  have HC := Lib.hid (fun (W : World) (hB : Below w.heap.size w W) => ring_cell (w := W) (b := b) (off := off) (l := l) (fun k hk => (hc k hk).below hB))
  have HL := Lib.hid hl
  have hnil := fun (W : World) (a : Option Addr) (n c : Nat) => Lib.run_eql_slice_nil (P := Tryz.prog) W 62 65 a n c 0 0 Tryz.underlying62
  clear hc hl
  go_enter Tryz.func22, Tryz.ntmps22
  have hrow0 : (w.alloc (.cells #[] 65)).ownsRow w.heap.size 65 7 (.slice (some ⟨w.heap.size, 0, none⟩) 0 0) 0 [] :=
    ⟨rfl, .inr ⟨_, _, _, rfl, Nat.le_refl _, World.alloc_heap_new w _, Nat.le_refl _, by unfold maxLen; omega, rfl, rfl⟩⟩
  have n1 : 0 + l.length ≤ maxLen := by unfold maxLen; omega
  have n2 : (0 + l.length) * 56 ≤ 140737488355328 := by omega
  have n3 : w.heap.size ≤ (w.alloc (.cells #[] 65)).heap.size := by simp
  have n4 : ∀ (W : World), (w.alloc (.cells #[] 65)).grownBy W (some w.heap.size) → Below w.heap.size w W := fun W h => Below.grown (below_alloc (Below.refl _ _) _) h (by simp) (fun k hk => by cases hk; exact Nat.le_refl _)
  have N := Lib.hid n1
  have N2 := Lib.hid n2
  have N3 := Lib.hid n3
  have N4 := Lib.hid n4
  have N5 := Lib.hid hrow0
  clear n1 n2 n3 n4 hrow0
  go_wp2_with (at_builtin; refine wpList_append_own _ rfl _ _ 62 rfl w.heap.size 65 i0 (sideV default) 7 56 Tryz.underlying62 hi0 hz0 hz1 hz2 rfl (by decide) _ 0 _ rfl N5.out ⟨b, off, none⟩ l.length cap (ringCells l) rfl (ringCells_length _) (HC.out _ (below_alloc (Below.refl _ _) _)) ringCells_one N.out N2.out N3.out ?_; intro v' w3 hown' hgrow3 hnil3; have HROW := Lib.hid hown'; have hB5 := Lib.hid (N4.out _ hgrow3); clear hown' hgrow3 hnil3; obtain ⟨sa2, sc2, rfl, _⟩ := row_shape HROW.out)
  go_ret
  have hr := HROW.out
  rw [Nat.zero_add, List.nil_append] at hr
  obtain ⟨g, cap', e, h1, h2, h3⟩ := row_own hr HL.out
  exact ⟨g, cap', by rw [← e]; rfl, h1, h2, h3, hB5.out⟩
end Go.Proofs.YtjpigaobeegbgaaGreatDoor
