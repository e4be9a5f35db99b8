/- Joined texts: WRef1, WRef2, WRef3, WRef4, WRef5. -/
import Derived.Test.YtjpigaobeegbgaaGreatDoorJ01
set_option linter.unusedVariables false
set_option linter.unusedSimpArgs false
/- Walks: the plan's reference: corners, directions, turns. -/
namespace Go.Proofs.YtjpigaobeegbgaaGreatDoor
open Go.RowKit
/-- a side in memory -/
def SideAt (w : World) (b o : Nat) (s : Side) : Prop := w.cell? ⟨b, o, none⟩ = some (.int .i64 s.x) ∧ w.cell? ⟨b, o + 1, none⟩ = some (.int .i64 s.y) ∧ w.cell? ⟨b, o + 2, none⟩ = some (.int .i64 s.rise) ∧ w.cell? ⟨b, o + 3, none⟩ = some (.int .i64 s.run) ∧ w.cell? ⟨b, o + 4, none⟩ = some (.bool s.gable) ∧ w.cell? ⟨b, o + 5, none⟩ = some (.int .i64 s.plate) ∧ w.cell? ⟨b, o + 6, none⟩ = some (.int .i64 s.over)
/-- a ring in memory -/
def IsRing (w : World) (v : Value) (l : Ring) : Prop := ∃ (a : Option Addr) (cap : Nat), v = .slice a l.length cap ∧ (l ≠ [] → ∃ b off, a = some ⟨b, off, none⟩ ∧ ∀ k, k < l.length → SideAt w b (off + k * 7) (sd l k))
theorem SideAt.below {w w' : World} {b o : Nat} {s : Side} (h : SideAt w b o s) (hB : Below w.heap.size w w') : SideAt w' b o s := by
  obtain ⟨h0, h1, h2, h3, h4, h5, h6⟩ := h
  exact ⟨keep hB h0, keep hB h1, keep hB h2, keep hB h3, keep hB h4, keep hB h5, keep hB h6⟩
theorem IsRing.below {w w' : World} {v : Value} {l : Ring} (h : IsRing w v l) (hB : Below w.heap.size w w') : IsRing w' v l := by
  obtain ⟨a, cap, rfl, h⟩ := h
  refine ⟨a, cap, rfl, fun hl => ?_⟩
  obtain ⟨b, off, rfl, hc⟩ := h hl
  exact ⟨b, off, rfl, fun k hk => (hc k hk).below hB⟩
theorem IsRing.drewN {w : World} {v : Value} {l : Ring} (h : IsRing w v l) (n : Nat) : IsRing (w.drewN n) v l := h.below (below_drewN (Below.refl _ _) _)
set_option maxHeartbeats 400000 in
theorem sign_any (n : Int) (w : World) : Calls Tryz.prog 186 #[.int .i64 n] w fun e w' => e = .returned (.int .i64 (sg n)) ∧ w' = w := by
  rcases sg_cases n with ⟨h, e⟩ | ⟨h, e⟩ | ⟨h, e⟩
  all_goals
    rw [e]
    clear e
    first | subst h | skip
    go_enter Tryz.func186, Tryz.ntmps186
    go_wp2
    go_ret
    exact ⟨rfl, rfl⟩
set_option maxHeartbeats 400000 in
theorem end_any (l : Ring) (v : Value) (i : Nat) (w : World) (hv : IsRing w v l) (hi : i < l.length) (hl : l.length ≤ 1000) :
    Calls Tryz.prog 185 #[v, .int .i64 i] w (RetQ (.tuple #[.int .i64 (nx l i).x, .int .i64 (nx l i).y]) w) := by
  obtain ⟨a, cap, rfl, h⟩ := hv
  obtain ⟨b, off, rfl, hc⟩ := h (fun h => by rw [h] at hi; simp at hi)
  have hk := nxi_lt hi
  obtain ⟨c0, c1, _⟩ := hc _ hk
  have e0 : sd l (nxi l.length i) = nx l i := rfl
  rw [e0] at c0 c1
  have hm : ((i : Int) + 1) % (l.length : Int) = ((nxi l.length i : Nat) : Int) := by simp [nxi]
  generalize nxi l.length i = k at *
  clear e0 hc h
  go_enter Tryz.func185, Tryz.ntmps185
  go_wp2
  go_quiet (fail)
  go_wp2
  go_ret2
  exact ⟨rfl, _, rfl⟩
/-- a quiet region behind a quiet region -/
theorem quietS {f : FuncId} {args : Array Value} {w : World} {a n : Nat} {v : Value} (h : Calls Tryz.prog f args (w.drewN (a + n)) fun e w' => e = .returned v ∧ w' = w.drewN (a + n)) :
    Calls Tryz.prog f args (w.drewN (a + n)) fun e w'' => e = .returned v ∧ ∃ m, w'' = w.drewN (a + m) := h.mono fun _ _ ⟨he, hm⟩ => ⟨he, n, hm⟩
theorem quietQ {f : FuncId} {args : Array Value} {w : World} {a n : Nat} {v : Value} (h : Calls Tryz.prog f args (w.drewN (a + n)) (RetQ v (w.drewN (a + n)))) :
    Calls Tryz.prog f args (w.drewN (a + n)) fun e w'' => e = .returned v ∧ ∃ m, w'' = w.drewN (a + m) := h.mono fun _ _ ⟨he, m, hm⟩ => ⟨he, n + m, by rw [hm, drewN_add, Nat.add_assoc]⟩
/-- all sides are in their ranges -/
def RRing (l : Ring) : Prop := ∀ i, i < l.length → RSide (sd l i)
theorem sg_bds (n : Int) : -1 ≤ sg n ∧ sg n ≤ 1 := by rcases sg_cases n with ⟨_, e⟩ | ⟨_, e⟩ | ⟨_, e⟩ <;> omega
set_option maxHeartbeats 400000 in
theorem direction_any (l : Ring) (v : Value) (i : Nat) (w : World) (hv : IsRing w v l) (hi : i < l.length) (hl : l.length ≤ 1000) (hr : RRing l) :
    Calls Tryz.prog 132 #[v, .int .i64 i] w (RetQ (.tuple #[.int .i64 (dirx l i), .int .i64 (diry l i)]) w) := by
  have hend := end_any l v i w hv hi hl
  obtain ⟨a, cap, rfl, h⟩ := hv
  obtain ⟨b, off, rfl, hc⟩ := h (fun h => by rw [h] at hi; simp at hi)
  obtain ⟨c0, c1, _⟩ := hc _ hi
  obtain ⟨⟨r1, r2⟩, ⟨r3, r4⟩, _⟩ := hr _ hi
  obtain ⟨⟨q1, q2⟩, ⟨q3, q4⟩, _⟩ := hr _ (nxi_lt hi)
  rw [show sd l (nxi l.length i) = nx l i from rfl] at q1 q2 q3 q4
  have hw1 : IntKind.i64.wrap ((nx l i).x - (sd l i).x) = (nx l i).x - (sd l i).x := IntWalk.i64_in _ (by omega)
  have hw2 : IntKind.i64.wrap ((nx l i).y - (sd l i).y) = (nx l i).y - (sd l i).y := IntWalk.i64_in _ (by omega)
  have HE := Lib.hid hend
  clear hc h hr hend r1 r2 r3 r4 q1 q2 q3 q4
  go_enter Tryz.func132, Tryz.ntmps132
  go_wp2_with fail
  refine HE.out.mono ?_
  rintro e w1 ⟨rfl, n1, rfl⟩
  go_wp2_with fail
  go_quiet ((go_at_call 186; exact quietS (sign_any _ _)))
  go_wp2_with fail
  go_ret2
  exact ⟨rfl, _, by first | rfl | exact drewN_add _ _ _⟩
theorem bnd1 {a b : Int} (ha : -1 ≤ a ∧ a ≤ 1) (hb : -1 ≤ b ∧ b ≤ 1) : -1 ≤ a * b ∧ a * b ≤ 1 := by
  obtain ⟨h1, h2⟩ := ha
  obtain ⟨h3, h4⟩ := hb
  have : a = -1 ∨ a = 0 ∨ a = 1 := by omega
  rcases this with rfl | rfl | rfl <;> omega
theorem turn_bds (l : Ring) (i : Nat) : -2 ≤ turn l i ∧ turn l i ≤ 2 := by
  have h1 := bnd1 (sg_bds ((nx l (pvi l.length i)).x - (sd l (pvi l.length i)).x)) (sg_bds ((nx l i).y - (sd l i).y))
  have h2 := bnd1 (sg_bds ((nx l (pvi l.length i)).y - (sd l (pvi l.length i)).y)) (sg_bds ((nx l i).x - (sd l i).x))
  unfold turn dirx diry
  omega
set_option maxHeartbeats 400000 in
theorem turn_any (l : Ring) (v : Value) (i : Nat) (w : World) (hv : IsRing w v l) (hi : i < l.length) (hl : l.length ≤ 1000) (hr : RRing l) :
    Calls Tryz.prog 133 #[v, .int .i64 i] w (RetQ (.int .i64 (turn l i)) w) := by
  have hd1 := fun n => direction_any l v (pvi l.length i) (w.drewN n) (hv.drewN n) (pvi_lt hi) hl hr
  have hd2 := fun n => direction_any l v i (w.drewN n) (hv.drewN n) hi hl hr
  obtain ⟨a, cap, rfl, h⟩ := hv
  have hm : ((i : Int) + (l.length : Int) - 1) % (l.length : Int) = ((pvi l.length i : Nat) : Int) := by
    unfold pvi
    rw [Int.natCast_emod, show ((i + l.length - 1 : Nat) : Int) = (i : Int) + (l.length : Int) - 1 by omega]
  have hp := pvi_lt hi
  obtain ⟨m1, m2⟩ := bnd1 (sg_bds ((nx l (pvi l.length i)).x - (sd l (pvi l.length i)).x)) (sg_bds ((nx l i).y - (sd l i).y))
  obtain ⟨m3, m4⟩ := bnd1 (sg_bds ((nx l (pvi l.length i)).y - (sd l (pvi l.length i)).y)) (sg_bds ((nx l i).x - (sd l i).x))
  rw [← show dirx l (pvi l.length i) = sg ((nx l (pvi l.length i)).x - (sd l (pvi l.length i)).x) from rfl, ← show diry l i = sg ((nx l i).y - (sd l i).y) from rfl] at m1 m2
  rw [← show diry l (pvi l.length i) = sg ((nx l (pvi l.length i)).y - (sd l (pvi l.length i)).y) from rfl, ← show dirx l i = sg ((nx l i).x - (sd l i).x) from rfl] at m3 m4
  have ht : Hid (dirx l (pvi l.length i) * diry l i - diry l (pvi l.length i) * dirx l i = turn l i) := Lib.hid rfl
  have HD1 := Lib.hid hd1
  have HD2 := Lib.hid hd2
  clear h hr hd1 hd2
  generalize dirx l (pvi l.length i) = p1 at *
  generalize diry l (pvi l.length i) = p2 at *
  generalize pvi l.length i = k at *
  go_enter Tryz.func133, Tryz.ntmps133
  go_wp2_with fail
  refine (HD1.out 0).mono ?_
  rintro e w1 ⟨rfl, n1, rfl⟩
  go_wp2_with fail
  refine (HD2.out _).mono ?_
  rintro e w1 ⟨rfl, n1, rfl⟩
  go_wp2_with fail
  go_ret
  exact ⟨congrArg (fun z => Ending.returned (.int .i64 z)) ht.out, _, by first | rfl | (rw [drewN_add, drewN_add])⟩
end Go.Proofs.YtjpigaobeegbgaaGreatDoor
/- Walks: the plan's reference: ranges, shapes, areas. -/
namespace Go.Proofs.YtjpigaobeegbgaaGreatDoor
open Go.RowKit
set_option maxHeartbeats 400000 in
theorem outside_any (n a b : Int) (w : World) {v : Bool} (h : decide (n < a ∨ b < n) = v) : Calls Tryz.prog 131 #[.int .i64 n, .int .i64 a, .int .i64 b] w fun e w' => e = .returned (.bool v) ∧ w' = w := by
  subst h
  by_cases h1 : n < a
  · have e : decide (n < a ∨ b < n) = true := by simp [h1]
    rw [e]; clear e
    go_enter Tryz.func131, Tryz.ntmps131
    go_wp2
    go_ret
    exact ⟨rfl, rfl⟩
  · by_cases h2 : b < n
    · have e : decide (n < a ∨ b < n) = true := by simp [h2]
      rw [e]; clear e
      go_enter Tryz.func131, Tryz.ntmps131
      go_wp2
      go_ret
      exact ⟨rfl, rfl⟩
    · have e : decide (n < a ∨ b < n) = false := by simp; omega
      rw [e]; clear e
      go_enter Tryz.func131, Tryz.ntmps131
      go_wp2
      go_ret
      exact ⟨rfl, rfl⟩
/-- the twice of an area -/
theorem twiceTo_succ (l : Ring) (k : Nat) : twiceTo l (k + 1) = twiceTo l k + cro (sd l k) (nx l k) := rfl
set_option maxHeartbeats 800000 in
theorem twice_any (l : Ring) (v : Value) (w : World) (hv : IsRing w v l) (hl : l.length ≤ 1000) (hr : RRing l) :
    Calls Tryz.prog 135 #[v] w (RetQ (.int .i64 (twice l)) w) := by
  have HE := Lib.hid (fun n i hi => end_any l v i (w.drewN n) (hv.drewN n) hi hl)
  obtain ⟨a, cap, rfl, h⟩ := hv
  have HC := Lib.hid h
  have HR := Lib.hid hr
  have HB := Lib.hid (twiceTo_bds hr)
  clear h hr
  go_enter Tryz.func135, Tryz.ntmps135
  go_wp2_with fail
  go_loopw [3, 4] (fun s i wr => ∃ k : Nat, k ≤ l.length ∧ i = .int .i64 k ∧ s = .int .i64 (twiceTo l k) ∧ ∃ n, wr = w.drewN n) (fun _ i _ => l.length - (intOf i).toNat)
  case atStart => exact ⟨0, by omega, rfl, rfl, 0, rfl⟩
  case round =>
    obtain ⟨k, hk, rfl, rfl, n, rfl⟩ := hrel
    by_cases hlt : k < l.length
    · obtain ⟨b, off, rfl, hc⟩ := HC.out (fun h => by rw [h] at hlt; simp at hlt)
      obtain ⟨c0, c1, _⟩ := hc _ hlt
      obtain ⟨q1, q2, q3, q4, q5, q6⟩ := cro_bds (HR.out _ hlt) (HR.out _ (nxi_lt hlt))
      rw [show sd l (nxi l.length k) = nx l k from rfl] at q1 q2 q3 q4 q5 q6
      obtain ⟨q7, q8⟩ := HB.out k hk
      have hcr : cro (sd l k) (nx l k) = (sd l k).x * (nx l k).y - (nx l k).x * (sd l k).y := rfl
      have HCR := Lib.hid hcr
      have hw1 : IntKind.i64.wrap ((sd l k).x * (nx l k).y) = (sd l k).x * (nx l k).y := IntWalk.i64_in _ (by omega)
      have hw2 : IntKind.i64.wrap ((nx l k).x * (sd l k).y) = (nx l k).x * (sd l k).y := IntWalk.i64_in _ (by omega)
      have hw3 : IntKind.i64.wrap (twiceTo l k + (sd l k).x * (nx l k).y) = twiceTo l k + (sd l k).x * (nx l k).y := IntWalk.i64_in _ (by omega)
      have hw4 : IntKind.i64.wrap (twiceTo l k + (sd l k).x * (nx l k).y - (nx l k).x * (sd l k).y) = twiceTo l k + (sd l k).x * (nx l k).y - (nx l k).x * (sd l k).y := IntWalk.i64_in _ (by omega)
      clear hc hcr q1 q2 q3 q4 q5 q6 q7 q8
      go_wp2_with fail
      refine (HE.out n k hlt).mono ?_
      rintro e w1 ⟨rfl, n1, rfl⟩
      go_wp2_with fail
      go_quiet (fail)
      go_wp2_with fail
      go_roundw
      case rel => exact ⟨k + 1, hlt, by go_num, ret_i64 (by rw [twiceTo_succ, HCR.out]; omega), _, by first | rfl | exact drewN_add _ _ _⟩
      case measure => simp [intOf]; omega
    · have e : k = l.length := by omega
      subst e
      go_wp2_with fail
      go_ret
      exact ⟨rfl, _, rfl⟩
end Go.Proofs.YtjpigaobeegbgaaGreatDoor
/- Walks: the plan's reference: touching sides, points inside, shapes, ranges. -/
namespace Go.Proofs.YtjpigaobeegbgaaGreatDoor
open Go.RowKit
def touchB (a a' b b' : Side) : Bool := decide (min a.x a'.x ≤ max b.x b'.x) && decide (min b.x b'.x ≤ max a.x a'.x) && decide (min a.y a'.y ≤ max b.y b'.y) && decide (min b.y b'.y ≤ max a.y a'.y)
theorem touchB_iff {a a' b b' : Side} : touchB a a' b b' = true ↔ Touch a a' b b' := by simp [touchB, Touch, and_assoc]
set_option maxHeartbeats 1600000 in
theorem touch_any (l m : Ring) (u v : Value) (i k : Nat) (w : World) (hu : IsRing w u l) (hv : IsRing w v m) (hi : i < l.length) (hk : k < m.length) (hl : l.length ≤ 1000) (hm : m.length ≤ 1000) :
    Calls Tryz.prog 134 #[u, .int .i64 i, v, .int .i64 k] w (RetQ (.bool (touchB (sd l i) (nx l i) (sd m k) (nx m k))) w) := by
  have HE := Lib.hid (end_any l u i w hu hi hl)
  have HF := Lib.hid (fun n => end_any m v k (w.drewN n) (hv.drewN n) hk hm)
  obtain ⟨a, cap, rfl, h⟩ := hu
  obtain ⟨a', cap', rfl, h'⟩ := hv
  obtain ⟨b, off, rfl, hc⟩ := h (fun h => by rw [h] at hi; simp at hi)
  obtain ⟨b', off', rfl, hc'⟩ := h' (fun h => by rw [h] at hk; simp at hk)
  obtain ⟨c0, c1, _⟩ := hc _ hi
  obtain ⟨d0, d1, _⟩ := hc' _ hk
  clear hc hc' h h'
  unfold touchB
  generalize (sd l i).x = ax at *
  generalize (nx l i).x = ax' at *
  generalize (sd m k).x = bx at *
  generalize (nx m k).x = bx' at *
  generalize (sd l i).y = ay at *
  generalize (nx l i).y = ay' at *
  generalize (sd m k).y = by1 at *
  generalize (nx m k).y = by2 at *
  have h0 : ∀ p : Bool × Bool × Bool × Bool, decide (min ax ax' ≤ max bx bx') = p.1 → decide (min bx bx' ≤ max ax ax') = p.2.1 → decide (min ay ay' ≤ max by1 by2) = p.2.2.1 → decide (min by1 by2 ≤ max ay ay') = p.2.2.2 → 
      Calls Tryz.prog 134 #[.slice (some ⟨b, off, none⟩) l.length cap, .int .i64 i, .slice (some ⟨b', off', none⟩) m.length cap', .int .i64 k] w (RetQ (.bool (p.1 && p.2.1 && p.2.2.1 && p.2.2.2)) w) := by
    rintro ⟨p1, p2, p3, p4⟩ e1 e2 e3 e4
    dsimp only at e1 e2 e3 e4 ⊢
    have key : p1 = false ∨ (p1 = true ∧ p2 = false) ∨ (p1 = true ∧ p2 = true ∧ p3 = false) ∨ (p1 = true ∧ p2 = true ∧ p3 = true ∧ p4 = false) ∨ (p1 = true ∧ p2 = true ∧ p3 = true ∧ p4 = true) := by cases p1 <;> cases p2 <;> cases p3 <;> cases p4 <;> simp
    rcases key with rfl | ⟨rfl, rfl⟩ | ⟨rfl, rfl, rfl⟩ | ⟨rfl, rfl, rfl, rfl⟩ | ⟨rfl, rfl, rfl, rfl⟩
    all_goals
      go_enter Tryz.func134, Tryz.ntmps134
      go_wp2_with fail
      refine HE.out.mono ?_
      rintro e w1 ⟨rfl, n1, rfl⟩
      go_wp2_with fail
      refine (HF.out _).mono ?_
      rintro e w1 ⟨rfl, n2, rfl⟩
      go_wp2_with fail
      (refine wp_region_quiet_lit (by kernel_rfl) (by kernel_rfl) ?_; simp only [List.append_eq, List.cons_append, List.nil_append]; (repeat (go_big_quiet_step (fail))); refine wpQuiet_nil ?_; intro _ hw'; obtain ⟨nq, hw''⟩ := hw'; subst hw'')
      go_wp2_with fail
      go_ret
      refine ⟨?_, _, by first | rfl | exact drewN_add _ _ _⟩
      simp
  exact h0 ⟨_, _, _, _⟩ rfl rfl rfl rfl
end Go.Proofs.YtjpigaobeegbgaaGreatDoor
/- Walks: the plan's reference: points inside a ring, the shape of a ring. -/
namespace Go.Proofs.YtjpigaobeegbgaaGreatDoor
open Go.RowKit
theorem insTo_hit {l : Ring} {x y : Int} {k : Nat} (h : Hit l x y k) : insTo l x y (k + 1) = !insTo l x y k := by simp [insTo, h]
theorem insTo_not {l : Ring} {x y : Int} {k : Nat} (h : ¬ Hit l x y k) : insTo l x y (k + 1) = insTo l x y k := by simp [insTo, h]
theorem four_cases (p1 p2 p3 p4 : Bool) : p1 = false ∨ (p1 = true ∧ p2 = false) ∨ (p1 = true ∧ p2 = true ∧ p3 = false) ∨ (p1 = true ∧ p2 = true ∧ p3 = true ∧ p4 = false) ∨ (p1 = true ∧ p2 = true ∧ p3 = true ∧ p4 = true) := by cases p1 <;> cases p2 <;> cases p3 <;> cases p4 <;> simp
theorem ret_bool {a b : Bool} (h : a = b) : Value.bool a = .bool b := by rw [h]
set_option maxHeartbeats 1600000 in
theorem inside_any (l : Ring) (v : Value) (x y : Int) (w : World) (hv : IsRing w v l) (hl : l.length ≤ 1000) :
    Calls Tryz.prog 136 #[v, .int .i64 x, .int .i64 y] w (RetQ (.bool (insideB l x y)) w) := by
  have HE := Lib.hid (fun n i hi => end_any l v i (w.drewN n) (hv.drewN n) hi hl)
  obtain ⟨a, cap, rfl, h⟩ := hv
  have HC := Lib.hid h
  clear h
  go_enter Tryz.func136, Tryz.ntmps136
  go_wp2_with fail
  go_loopw [7, 8] (fun s i wr => ∃ k : Nat, k ≤ l.length ∧ i = .int .i64 k ∧ s = .bool (insTo l x y k) ∧ ∃ n, wr = w.drewN n) (fun _ i _ => l.length - (intOf i).toNat)
  case atStart => exact ⟨0, by omega, rfl, rfl, 0, rfl⟩
  case round =>
    obtain ⟨k, hk, rfl, rfl, n, rfl⟩ := hrel
    by_cases hlt : k < l.length
    · obtain ⟨b, off, rfl, hc⟩ := HC.out (fun h => by rw [h] at hlt; simp at hlt)
      obtain ⟨c0, c1, _⟩ := hc _ hlt
      have HIT := Lib.hid (@insTo_hit l x y k)
      have NOT := Lib.hid (@insTo_not l x y k)
      have HD : Hid (Hit l x y k ↔ ((sd l k).x = (nx l k).x ∧ x < (nx l k).x ∧ min (sd l k).y (nx l k).y ≤ y ∧ y < max (sd l k).y (nx l k).y)) := Lib.hid Iff.rfl
      have hE := HE.out n k hlt
      have HE2 := Lib.hid hE
      clear hc hE
      generalize (sd l k).x = ax at *
      generalize (sd l k).y = ay at *
      generalize (nx l k).x = bx at *
      generalize (nx l k).y = by1 at *
      generalize insTo l x y k = o at *
      obtain ⟨p1, e1⟩ : ∃ p, (ax == bx) = p := ⟨_, rfl⟩
      obtain ⟨p2, e2⟩ : ∃ p, decide (x < bx) = p := ⟨_, rfl⟩
      obtain ⟨p3, e3⟩ : ∃ p, decide (min ay by1 ≤ y) = p := ⟨_, rfl⟩
      obtain ⟨p4, e4⟩ : ∃ p, decide (y < max ay by1) = p := ⟨_, rfl⟩
      rcases four_cases p1 p2 p3 p4 with rfl | ⟨rfl, rfl⟩ | ⟨rfl, rfl, rfl⟩ | ⟨rfl, rfl, rfl, rfl⟩ | ⟨rfl, rfl, rfl, rfl⟩
      all_goals
        have HE1 := Lib.hid e1
        have HE2' := Lib.hid e2
        have HE3 := Lib.hid e3
        have HE4 := Lib.hid e4
        go_wp2_with fail
        refine HE2.out.mono ?_
        rintro e w1 ⟨rfl, n1, rfl⟩
        go_wp2_with fail
        first | (go_quiet (fail)) | skip
        go_wp2_with fail
        go_roundw
        case rel => 
          refine ⟨k + 1, hlt, by go_num, ret_bool ?_, _, by first | rfl | exact drewN_add _ _ _⟩
          have z1 := HE1.out
          have z2 := HE2'.out
          have z3 := HE3.out
          have z4 := HE4.out
          by_cases hh : Hit l x y k
          · refine Eq.trans ?_ (HIT.out hh).symm
            obtain ⟨g1, g2, g3, g4⟩ := HD.out.1 hh
            first | rfl | (exfalso; simp [g1, g2, g3, g4] at z1 z2 z3 z4)
          · refine Eq.trans ?_ (NOT.out hh).symm
            first | rfl | (exfalso; simp at z1 z2 z3 z4; exact hh (HD.out.2 ⟨z1, z2, z3, z4⟩))
        case measure => simp [intOf]; omega
    · have e : k = l.length := by omega
      subst e
      go_wp2_with fail
      go_ret
      exact ⟨rfl, _, rfl⟩
end Go.Proofs.YtjpigaobeegbgaaGreatDoor
/- Walks: the plan's reference: the shape of a ring, the ranges of a side. -/
namespace Go.Proofs.YtjpigaobeegbgaaGreatDoor
open Go.RowKit
open Classical in
/-- whether something holds -/
noncomputable def dec (p : Prop) : Bool := decide p
theorem dec_true {p : Prop} (h : p) : dec p = true := by simp [dec, h]
theorem dec_false {p : Prop} (h : ¬ p) : dec p = false := by simp [dec, h]
theorem dec_iff {p : Prop} : dec p = true ↔ p := by simp [dec]
set_option maxHeartbeats 1600000 in
theorem shaped_any (l : Ring) (v : Value) (w : World) (hv : IsRing w v l) (hl : l.length ≤ 1000) (hr : RRing l) :
    Calls Tryz.prog 75 #[v] w (RetQ (.bool (dec (Shaped l))) w) := by
  have HE := Lib.hid (fun n i hi => direction_any l v i (w.drewN n) (hv.drewN n) hi hl hr)
  have HT := Lib.hid (fun n i hi => turn_any l v i (w.drewN n) (hv.drewN n) hi hl hr)
  obtain ⟨a, cap, rfl, h⟩ := hv
  clear h hr
  go_enter Tryz.func75, Tryz.ntmps75
  go_wp2_with fail
  go_loopw [3] (fun i wr => ∃ k : Nat, k ≤ l.length ∧ i = .int .i64 k ∧ Hid (∀ j, j < k → OkAt l j) ∧ ∃ n, wr = w.drewN n) (fun i _ => l.length - (intOf i).toNat)
  case atStart => exact ⟨0, by omega, rfl, Lib.hid (fun j h => by omega), 0, rfl⟩
  case round =>
    obtain ⟨k, hk, rfl, hok, n, rfl⟩ := hrel
    by_cases hlt : k < l.length
    · have hE := Lib.hid (HE.out n k hlt)
      have hT := Lib.hid (fun n => HT.out n k hlt)
      have hO : Hid (OkAt l k ↔ dirx l k * dirx l k + diry l k * diry l k = 1 ∧ turn l k ≠ 0) := Lib.hid Iff.rfl
      have b1 : -1 ≤ dirx l k ∧ dirx l k ≤ 1 := sg_bds _
      have b2 : -1 ≤ diry l k ∧ diry l k ≤ 1 := sg_bds _
      have b3 := bnd1 b1 b1
      have b4 := bnd1 b2 b2
      obtain ⟨b3, b5⟩ := b3
      obtain ⟨b4, b6⟩ := b4
      clear b1 b2
      generalize dirx l k = p at *
      generalize diry l k = q at *
      generalize turn l k = t at *
      by_cases h1 : p * p + q * q = 1
      · have h1' : (p * p + q * q != 1) = false := by simp [h1]
        have H1 := Lib.hid h1
        clear h1
        by_cases h2 : t = 0
        · have h2' : (t == 0) = true := by simp [h2]
          have H2 := Lib.hid h2
          clear h2
          go_wp2_with fail
          refine hE.out.mono ?_
          rintro e w1 ⟨rfl, n1, rfl⟩
          go_wp2_with fail
          refine (hT.out _).mono ?_
          rintro e w1 ⟨rfl, n1, rfl⟩
          go_wp2_with fail
          go_ret
          exact ⟨congrArg Ending.returned (ret_bool (dec_false (fun hs => (hO.out.1 (hs.2 k hlt)).2 H2.out)).symm), _, by first | rfl | (simp only [drewN_add]; rfl)⟩
        · have h2' : (t == 0) = false := by simp [h2]
          have H2 := Lib.hid h2
          clear h2
          go_wp2_with fail
          refine hE.out.mono ?_
          rintro e w1 ⟨rfl, n1, rfl⟩
          go_wp2_with fail
          refine (hT.out _).mono ?_
          rintro e w1 ⟨rfl, n1, rfl⟩
          go_wp2_with fail
          go_roundw
          case rel => exact ⟨k + 1, hlt, by go_num, Lib.hid (fun j hj => by by_cases hjk : j < k; exact hok.out j hjk; (have : j = k := by omega); subst this; exact hO.out.2 ⟨H1.out, H2.out⟩), _, by first | rfl | (simp only [drewN_add]; rfl)⟩
          case measure => simp [intOf]; omega
      · have h1' : (p * p + q * q != 1) = true := by simp [h1]
        have H1 := Lib.hid h1
        clear h1
        go_wp2_with fail
        refine hE.out.mono ?_
        rintro e w1 ⟨rfl, n1, rfl⟩
        go_wp2_with fail
        go_ret
        exact ⟨congrArg Ending.returned (ret_bool (dec_false (fun hs => H1.out (hO.out.1 (hs.2 k hlt)).1)).symm), _, by first | rfl | (simp only [drewN_add]; rfl)⟩
    · have e : k = l.length := by omega
      subst e
      by_cases h4 : (4 : Int) ≤ (l.length : Int)
      · go_wp2_with fail
        go_ret
        exact ⟨congrArg Ending.returned (ret_bool (dec_true ⟨by omega, hok.out⟩).symm), _, rfl⟩
      · go_wp2_with fail
        go_ret
        exact ⟨congrArg Ending.returned (ret_bool (dec_false (fun hs => by have := hs.1; omega)).symm), _, rfl⟩
end Go.Proofs.YtjpigaobeegbgaaGreatDoor
