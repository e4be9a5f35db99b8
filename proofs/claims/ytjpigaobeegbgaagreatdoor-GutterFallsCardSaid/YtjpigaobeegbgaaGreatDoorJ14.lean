/- Joined texts: WMiddles, WCollect, WOutlets, WAwake50, WGreat, WFine, WEnds, WOpenP. -/
import Derived.Test.YtjpigaobeegbgaaGreatDoorJ13
import Derived.RangeFuncBox
import Derived.Test.YtjpigaobeegbgaaGreatDoorJ04
import Derived.Test.YtjpigaobeegbgaaGreatDoorJ10
import Derived.Test.YtjpigaobeegbgaaGreatDoorJ07
import Derived.Test.YtjpigaobeegbgaaGreatDoorJ02
import Derived.Deep.Slices
import Derived.SizedLaws
set_option linter.unusedVariables false
set_option linter.unusedSimpArgs false
/- Walks: gutter.middles: the middles of equal parts, one by one. -/
namespace Go.Proofs.YtjpigaobeegbgaaGreatDoor
open Go.RowKit Go.Shelf
attribute [local go_sem] Oper.semAt_some
/-- the middle of a part -/
def mid (lo hi : Int) (n k : Nat) : Rat := Rat.divInt (2 * n * lo + (2 * k + 1) * (hi - lo)) (2 * n)
def mids (lo hi : Int) (n k : Nat) : List Rat := (List.range k).map (mid lo hi n)
theorem mids_succ (lo hi : Int) (n k : Nat) : mids lo hi n (k + 1) = mids lo hi n k ++ [mid lo hi n k] := by simp [mids, List.range_succ]
theorem mids_length (lo hi : Int) (n k : Nat) : (mids lo hi n k).length = k := by simp [mids]
def encN (q : Rat) : Array Value := #[.string (numS q)]
set_option maxHeartbeats 400000 in
theorem middles_any (lo hi : Int) (n : Nat) (w : World) :
    Calls Tryz.prog 40 #[.int .i64 lo, .int .i64 hi, .int .i64 n] w fun e w' => e = .returned (.func (.func 85) #[] #[.pointer (some ⟨w.heap.size + 2, 0, none⟩), .pointer (some ⟨w.heap.size, 0, none⟩), .pointer (some ⟨w.heap.size + 1, 0, none⟩)]) ∧ w' = ((w.alloc (.cells #[.int .i64 lo] 3)).alloc (.cells #[.int .i64 hi] 3)).alloc (.cells #[.int .i64 n] 3) := by
  have hmf : ∀ (fn : Fn) (first cap : Array Value) (w : World), (Instr.makeFunc fn first cap).run Tryz.prog w = .ok (.func fn first cap) w := fun _ _ _ _ => rfl
  go_enter Tryz.func40, Tryz.ntmps40
  go_wp2_with fail
  go_ret
  exact ⟨rfl, rfl⟩
theorem mid_bds {lo hi : Int} {np k : Nat} (h0 : 0 ≤ lo) (h1 : lo ≤ hi) (h2 : hi ≤ 65536) (h3 : np ≤ 4096) (h4 : k < np) :
    (0 ≤ 2 * (np : Int) * lo ∧ 2 * (np : Int) * lo ≤ 536870912) ∧ (0 ≤ (2 * (k : Int) + 1) * (hi - lo) ∧ (2 * (k : Int) + 1) * (hi - lo) ≤ 536936448) := by
  have a1 : (2 * (np : Int)) * lo ≤ 8192 * 65536 := Int.mul_le_mul (by omega) (by omega) h0 (by omega)
  have a2 : 0 ≤ (2 * (np : Int)) * lo := Int.mul_nonneg (by omega) h0
  have a3 : (2 * (k : Int) + 1) * (hi - lo) ≤ 8193 * 65536 := Int.mul_le_mul (by omega) (by omega) (by omega) (by omega)
  have a4 : 0 ≤ (2 * (k : Int) + 1) * (hi - lo) := Int.mul_nonneg (by omega) (by omega)
  omega
set_option maxRecDepth 100000 in
set_option maxHeartbeats 2000000 in
theorem middles1_in (lo hi : Int) (np n : Nat) (hn : 1 ≤ n) (lb b0 b1 b2 : Nat) (J Jx : List Rat → World → Prop) (h0 : 0 ≤ lo) (h1 : lo ≤ hi) (h2 : hi ≤ 65536) (h3 : np ≤ 4096) (w0 : World)
    (hY : ∀ pre x W, J pre W → pre.length < np → YieldAt Fence.wide (n - 1) Tryz.prog lb (encN x) W fun e W' =>
      (e = .returned (.bool true) ∧ J (pre ++ [x]) W' ∧ Below w0.heap.size W W') ∨ (e = .returned (.bool false) ∧ Jx (pre ++ [x]) W'))
    (W : World) (hJ : AbidesFrom W.heap.size J) (hG : Glo w0) (hB : Below w0.heap.size w0 W) (c0 : w0.cell? ⟨b0, 0, none⟩ = some (.int .i64 lo)) (c1 : w0.cell? ⟨b1, 0, none⟩ = some (.int .i64 hi)) (c2 : w0.cell? ⟨b2, 0, none⟩ = some (.int .i64 np)) (hJ0 : J [] W) :
    CallsIn Fence.wide n Tryz.prog 85 #[.func (.yield lb) #[] #[], .pointer (some ⟨b2, 0, none⟩), .pointer (some ⟨b0, 0, none⟩), .pointer (some ⟨b1, 0, none⟩)] W fun e W' => (∃ v, e = .returned v) ∧
      ((∃ ys, ys = mids lo hi np np ∧ J ys W') ∨ (∃ pre, True ∧ Jx pre W')) := by
  have HJ := Lib.hid hJ
  have HY := Lib.hid hY
  have HG := Lib.hid hG
  clear hJ hY hG
  have k2 := keep hB c2
  refine callsIn_of_wp Tryz.func85 rfl trivial ?_ rfl
  simp only [Tryz.ntmps85, List.size_toArray, List.length_cons, List.length_nil, Nat.reduceAdd, Nat.reduceSub, Array.replicate_succ, Array.replicate_zero, List.push_toArray, List.append_toArray, List.nil_append, List.cons_append]
  gi_wp2
  gi_loopg [9] np (fun g v wr => ∃ k : Nat, k ≤ np ∧ g = np - k ∧ v = .int .i64 k ∧ Hid (J (mids lo hi np k) wr) ∧ Below w0.heap.size w0 wr ∧ W.heap.size ≤ wr.heap.size) 
  case atStart => exact ⟨0, by omega, rfl, rfl, Lib.hid hJ0, hB, Nat.le_refl _⟩
  case round =>
    obtain ⟨k, hk, rfl, rfl, hJk, hBk, hz⟩ := hrel
    have k0 := keep hBk c0
    have k1 := keep hBk c1
    have k2 := keep hBk c2
    by_cases hkn : k = np
    · subst hkn
      gi_wp2
      go_end0
      exact ⟨⟨_, rfl⟩, .inl ⟨_, rfl, hJk.out⟩⟩
    · have hk1 : k < np := by omega
      obtain ⟨⟨q1, q2⟩, q3, q4⟩ := mid_bds h0 h1 h2 h3 hk1
      have hki : (k : Int) < (np : Int) := by omega
      have HM : Hid (Rat.divInt (2 * (np : Int) * lo + (2 * (k : Int) + 1) * (hi - lo)) (2 * (np : Int)) = mid lo hi np k) := Lib.hid rfl
      have w1 : IntKind.i64.wrap (2 * (np : Int)) = 2 * (np : Int) := IntWalk.i64_in _ (by omega)
      have w2 : IntKind.i64.wrap (2 * (np : Int) * lo) = 2 * (np : Int) * lo := IntWalk.i64_in _ (by omega)
      have w3 : IntKind.i64.wrap (2 * (k : Int)) = 2 * (k : Int) := IntWalk.i64_in _ (by omega)
      have w4 : IntKind.i64.wrap (2 * (k : Int) + 1) = 2 * (k : Int) + 1 := IntWalk.i64_in _ (by omega)
      have w5 : IntKind.i64.wrap (hi - lo) = hi - lo := IntWalk.i64_in _ (by omega)
      have w6 : IntKind.i64.wrap ((2 * (k : Int) + 1) * (hi - lo)) = (2 * (k : Int) + 1) * (hi - lo) := IntWalk.i64_in _ (by omega)
      have w7 : IntKind.i64.wrap (2 * (np : Int) * lo + (2 * (k : Int) + 1) * (hi - lo)) = 2 * (np : Int) * lo + (2 * (k : Int) + 1) * (hi - lo) := IntWalk.i64_in _ (by omega)
      have HOF := Lib.hid (fun W' (hg : Glo W') => Of_small (2 * (np : Int) * lo + (2 * (k : Int) + 1) * (hi - lo)) (2 * (np : Int)) W' hg (by omega) (by omega) (by omega))
      have HMS := Lib.hid (mids_succ lo hi np k)
      have HYk := Lib.hid (fun x W hW => HY.out (mids lo hi np k) x W hW (by rw [mids_length]; exact hk1))
      gi_wp2
      refine ⟨trivial, ?_⟩
      refine (callsIn_wide.2 (HOF.out _ (HG.out.below hBk))).mono ?_
      rintro e wm ⟨r, hr, rfl, hB1⟩
      have hJm : J (mids lo hi np k) wm := abides_below' HJ.out hJk.out hB1
      have hBm : Below w0.heap.size w0 wm := below_trans' hBk hB1
      obtain rfl := numS_of hr
      rw [HM.out] at *
      obtain ⟨fn, tmps, assign, body, hy, hR⟩ := HYk.out (mid lo hi np k) wm hJm
      unfold encN at hy
      clear hJm hr HOF
      gi_wp2
      refine hR.mono ?_
      rintro e W3 (⟨rfl, hJ3, hk3⟩ | ⟨rfl, hJx3⟩)
      · have hB3 : Below w0.heap.size w0 W3 := hBm.trans hk3
        have hz3 : W.heap.size ≤ W3.heap.size := by have := hk3.size; have := hB1.size; omega
        rw [← HMS.out] at hJ3
        have HJ3 := Lib.hid hJ3
        clear hJ3 hk3 hy hR
        gi_wp2
        gi_roundg (np - (k + 1))
        case rel => exact ⟨k + 1, hk1, rfl, by go_num, HJ3, hB3, hz3⟩
        case measure => omega
      · clear hy hR
        gi_wp2
        refine bodyPost_ret (results_none rfl _ _ _) rfl ?_
        exact ⟨⟨_, rfl⟩, .inr ⟨_, trivial, hJx3⟩⟩
/-- as a sequence that stops -/
theorem middles_stops (lo hi : Int) (np n : Nat) (hn : 1 ≤ n) (b0 b1 b2 : Nat) (h0 : 0 ≤ lo) (h1 : lo ≤ hi) (h2 : hi ≤ 65536) (h3 : np ≤ 4096) (w0 : World) (hG : Glo w0)
    (c0 : w0.cell? ⟨b0, 0, none⟩ = some (.int .i64 lo)) (c1 : w0.cell? ⟨b1, 0, none⟩ = some (.int .i64 hi)) (c2 : w0.cell? ⟨b2, 0, none⟩ = some (.int .i64 np)) :
    SeqStopsK Fence.wide n Tryz.prog 85 #[.pointer (some ⟨b2, 0, none⟩), .pointer (some ⟨b0, 0, none⟩), .pointer (some ⟨b1, 0, none⟩)] encN (fun W W' => Below w0.heap.size W W') (fun ys => ys = mids lo hi np np) (fun _ => True) np w0 := fun lb J Jx W hW hJ _ hY hJ0 =>
  middles1_in lo hi np n hn lb b0 b1 b2 J Jx h0 h1 h2 h3 w0 hY W hJ hG hW c0 c1 c2 hJ0
end Go.Proofs.YtjpigaobeegbgaaGreatDoor
/- Walks: slices.Collect of numbers. -/
namespace Go.Proofs.YtjpigaobeegbgaaGreatDoor
open Go.RowKit Go.Shelf
attribute [local go_sem] Oper.semAt_some
/-- a list of numbers is returned -/
def RetNums (l : List Rat) (w : World) (e : Ending) (w' : World) : Prop := ∃ v, e = .returned v ∧ w'.ownsRow w.heap.size 38 1 v l.length (numVs l) ∧ Below w.heap.size w w'
set_option maxRecDepth 100000 in
set_option maxHeartbeats 2000000 in
theorem appendSeq_ok (gf : Nat) (lb : Array Value) (l : List Rat) (Sp : List Rat → Prop) (w0 w : World) (hB0 : Below w0.heap.size w0 w) (hl : l.length ≤ 4096) (enter : ∀ args W, (callFunc gf args).run Tryz.prog W = .ok (.enter gf args) W)
    (hseq : ∀ n, 1 ≤ n → SeqStopsK Fence.wide n Tryz.prog gf lb encN (fun W W' => Below w0.heap.size W W') (fun ys => ys = l) Sp l.length w0) :
    Calls Tryz.prog 84 #[.slice none 0 0, .func (.func gf) #[] lb] w (RetNums l w) := by
  obtain ⟨i0, hi0, hz0, hz1, hz2⟩ := info_parts Tryz.infoNum
  have HSQ := Lib.hid hseq
  have HEN := Lib.hid enter
  clear hseq enter
  refine (callsIn_wide (n := 5)).1 ?_
  refine callsIn_of_wp_marks Tryz.func84 rfl trivial ?_ rfl
  simp only [Tryz.ntmps84, List.size_toArray, List.length_cons, List.length_nil, Nat.reduceAdd, Nat.reduceSub, Array.replicate_succ, Array.replicate_zero, List.push_toArray, List.append_toArray, List.nil_append, List.cons_append]
  gi_wp2
  have hx := Boxed.new w 27 (.slice none 0 0)
  have hB1 : Below w.heap.size w (w.alloc (.cells #[.slice none 0 0] 27)) := below_alloc (Below.refl _ _) _
  have hB2 : Below w0.heap.size w0 (w.alloc (.cells #[.slice none 0 0] 27)) := hB0.trans (hB1.mono hB0.size)
  generalize w.alloc (.cells #[.slice none 0 0] 27) = W0 at *
  refine wpIn_rangeFunc_ownG (a₁ := ?a1) rfl (by omega) (gf := gf) (lb := lb) rfl trivial HEN.out
    (HSQ.out _ (by omega)) (fun h k => h.trans k) (fun W k o o' hk ho _ _ => by have hg := grownBy_putObj' W k o'; exact ⟨hg.os, hg.tape, hg.output, hg.size, fun j hj => World.putObj_heap_other (by have := hB2.size; omega)⟩) hB2 (fun _ => rfl)
    (fun pre W => (∃ v, Boxed W w.heap.size 27 v ∧ W.ownsRow w.heap.size 38 1 v pre.length (numVs pre) ∧ True) ∧ Below w.heap.size w W)
    (fun _ _ _ => False)
    (OwnFrom.and (Own.from (holdsRow_own w.heap.size w.heap.size 27 38 1 (fun pre => pre.length) (fun pre => numVs pre) (fun _ _ => True)) _) (ownFrom_below (Nat.le_refl _) (by have := hx.lt; omega)))
    (fun _ _ _ _ _ hs _ _ => hs)
    ⟨⟨_, hx, World.ownsRow_nil _ _ _ _, trivial⟩, hB1⟩ ?assign ?body ?done ?stop
  case assign =>
    intro l x W K hK
    unfold encN
    gi_wp2
    exact hK
  case stop =>
    rintro D c pre W _ _ h _
    exact h.elim
  case body =>
    rintro l1 pre x W ⟨⟨v, hv, hrow, _⟩, hB⟩ hlt
    have hc := hv.cell
    have hnb : pre.length + 1 ≤ maxLen := by unfold maxLen; omega
    obtain ⟨oa, oc, rfl⟩ : ∃ oa oc, v = .slice oa pre.length oc := by
      rcases hrow.2 with ⟨h, hk⟩ | ⟨g, cap, cur, h, _⟩
      · exact ⟨none, 0, by rw [h, hk]⟩
      · exact ⟨_, _, h⟩
    have HVS := Lib.hid (show numVs (pre ++ [x]) = numVs pre ++ [.string (numS x)] by simp [numVs])
    have HVL := Lib.hid (show (pre ++ [x]).length = pre.length + 1 by simp)
    have hln : pre.length < 4096 := by omega
    gi_wp2_with (gi_at_builtin; refine wpListIn_append_own _ rfl _ _ 27 rfl w.heap.size 38 i0 (.string ⟨#[]⟩) 1 16 Tryz.underlying27 hi0 hz0 hz1 hz2 rfl (by decide) _ _ _ rfl (hrow.alloc _) ⟨W.heap.size, 0, none⟩ 1 1 [.string (numS x)] rfl rfl (cell_one_new _ _ _) (by simp [Value.oneCell']) hnb (by omega) (by simp; have := hB.size; omega) ?_; intro v' w1 hown' hgrow _; obtain ⟨g', cap', rfl⟩ := ownsRow_succ hown'; obtain ⟨hv1, hv2, hr2, hk2, hb2⟩ := hv.appended (by decide) hrow hB.size (Nat.le_refl _) hown' hgrow; have hc1 := hv1.cell; have hf1 := hv1.frozen)
    refine ⟨hk2.from _, ?_, ⟨⟨_, hv2, ?_, trivial⟩, hB.trans hb2⟩⟩
    · exact hb2.mono hB0.size
    · rw [HVL.out, HVS.out]; exact hr2
  case done =>
    rintro D ys W hD rfl ⟨⟨v, hv, hrow, _⟩, hB⟩ hK
    have hc := hv.cell
    gi_wp2
    refine leaves_marks w.heap.size [D] _ (by simp) (fun E hE => ?_) (fun W' hB' hcc => ?_)
    · obtain rfl : E = D := by simpa using hE
      exact ⟨by have := hx.lt; omega, hK⟩
    · exact ⟨_, results_tmp rfl _ _ _, _, rfl, ownsRow_keeps hrow hcc, hB.trans hB'⟩
set_option maxHeartbeats 800000 in
theorem collect_ok (gf : Nat) (lb : Array Value) (l : List Rat) (Sp : List Rat → Prop) (w0 w : World) (hB0 : Below w0.heap.size w0 w) (hl : l.length ≤ 4096) (enter : ∀ args W, (callFunc gf args).run Tryz.prog W = .ok (.enter gf args) W)
    (hseq : ∀ n, 1 ≤ n → SeqStopsK Fence.wide n Tryz.prog gf lb encN (fun W W' => Below w0.heap.size W W') (fun ys => ys = l) Sp l.length w0) :
    Calls Tryz.prog 39 #[.func (.func gf) #[] lb] w (RetNums l w) := by
  have HA := Lib.hid (appendSeq_ok gf lb l Sp w0 w hB0 hl enter hseq)
  clear enter hseq
  go_enter Tryz.func39, Tryz.ntmps39
  go_wp2_with fail
  refine HA.out.mono ?_
  rintro e w1 ⟨v, rfl, hrow, hB⟩
  obtain ⟨sa, sc, rfl, _⟩ := row_shape hrow
  have HR := Lib.hid hrow
  clear hrow
  go_wp2_with fail
  go_ret
  exact ⟨_, rfl, HR.out, hB⟩
end Go.Proofs.YtjpigaobeegbgaaGreatDoor
/- Walks: gutter.Outlets at a plan that is valid. -/
namespace Go.Proofs.YtjpigaobeegbgaaGreatDoor
open Go.RowKit Go.Shelf
/-- how many parts -/
def parts (lo hi most : Int) : Nat := ((hi - lo + 2 * most - 1) / (2 * most)).toNat
/-- a list and a code -/
def RetNumsE (l : List Rat) (w : World) (e : Ending) (w' : World) : Prop := ∃ v, e = .returned (.tuple #[v, .int .i64 0]) ∧ w'.ownsRow w.heap.size 38 1 v l.length (numVs l) ∧ Below w.heap.size w w'
theorem eLo_bds {B C : Side} (hB : RSide B) (hC : RSide C) : 0 ≤ eLo B C ∧ eLo B C ≤ eHi B C ∧ eHi B C ≤ 65536 := by
  obtain ⟨⟨a1, a2⟩, ⟨a3, a4⟩, _⟩ := hB
  obtain ⟨⟨b1, b2⟩, ⟨b3, b4⟩, _⟩ := hC
  unfold eLo eHi
  split <;> omega
set_option maxRecDepth 100000 in
set_option maxHeartbeats 3200000 in
theorem outlets_ok (P : List Ring) (u : Value) (w : World) (r0 i0 n : Nat) (most : Int) (hG : Glo w) (hv : IsPlan w (.agg #[u]) P) (hval : Valid P) (hr0 : r0 < P.length) (hi0 : i0 < (rg P r0).length) (hn : n = total P r0 + i0) (hg : (sd (rg P r0) i0).gable = false)
    (hm0 : 1 ≤ most) (hm1 : most ≤ 65536) (hp : parts (eLo (sd (rg P r0) i0) (nx (rg P r0) i0)) (eHi (sd (rg P r0) i0) (nx (rg P r0) i0)) most ≤ 4096) :
    Calls Tryz.prog 12 #[.agg #[u, .slice none 0 0, .slice none 0 0, .slice none 0 0], .int .i64 n, .int .i64 most] w
      (RetNumsE (mids (eLo (sd (rg P r0) i0) (nx (rg P r0) i0)) (eHi (sd (rg P r0) i0) (nx (rg P r0) i0)) (parts (eLo (sd (rg P r0) i0) (nx (rg P r0) i0)) (eHi (sd (rg P r0) i0) (nx (rg P r0) i0)) most) (parts (eLo (sd (rg P r0) i0) (nx (rg P r0) i0)) (eHi (sd (rg P r0) i0) (nx (rg P r0) i0)) most)) w) := by
  have HE := Lib.hid (fun W (hB : Below w.heap.size w W) => eaves_ok P _ W r0 i0 n (hv.below hB) hval hr0 hi0 hn hg)
  obtain ⟨h0, h1, h2⟩ := eLo_bds (hval.ran r0 hr0 i0 hi0) (hval.ran r0 hr0 _ (nxi_lt hi0))
  rw [show sd (rg P r0) (nxi (rg P r0).length i0) = nx (rg P r0) i0 from rfl] at h0 h1 h2
  obtain ⟨u', hu', hu⟩ := hv
  obtain ⟨a, cap, rfl, h⟩ := hu
  cases hu'
  clear h hval hg hn
  generalize eLo (sd (rg P r0) i0) (nx (rg P r0) i0) = lo at *
  generalize eHi (sd (rg P r0) i0) (nx (rg P r0) i0) = hi at *
  have w1 : IntKind.i64.wrap (hi - lo) = hi - lo := IntWalk.i64_in _ (by omega)
  have w2 : IntKind.i64.wrap (2 * most) = 2 * most := IntWalk.i64_in _ (by omega)
  have w3 : IntKind.i64.wrap (hi - lo + 2 * most) = hi - lo + 2 * most := IntWalk.i64_in _ (by omega)
  have w4 : IntKind.i64.wrap (hi - lo + 2 * most - 1) = hi - lo + 2 * most - 1 := IntWalk.i64_in _ (by omega)
  have hd0 : ¬ (2 * most) = 0 := by omega
  have hq : (hi - lo + 2 * most - 1).tdiv (2 * most) = ((parts lo hi most : Nat) : Int) := by
    rw [Int.tdiv_eq_ediv_of_nonneg (by omega)]
    unfold parts
    rw [Int.toNat_of_nonneg (Int.ediv_nonneg (by omega) (by omega))]
  generalize parts lo hi most = np at *
  have w5 : IntKind.i64.wrap (np : Int) = (np : Int) := IntWalk.i64_in _ (by omega)
  have hnp : ¬ 4096 < (np : Int) := by omega
  have HG := Lib.hid hG
  clear hG
  go_enter Tryz.func12, Tryz.ntmps12
  go_wp2_with fail
  refine (HE.out _ (by repeat (first | (with_reducible first | exact Below.refl _ _ | refine Below.setCell ?_ ?_ _ | refine below_drewN ?_ _ | refine Below.drew ?_ | refine below_alloc ?_ _ | refine below_trans'' (by assumption) ?_) | exact Nat.le_refl _ | (focus (simp; done)) | (focus (simp; omega)) | omega))).mono ?_
  rintro e w1 ⟨rfl, hB1⟩
  have hB2 : Below w.heap.size w w1 := (by repeat (first | (with_reducible first | exact Below.refl _ _ | refine Below.setCell ?_ ?_ _ | refine below_drewN ?_ _ | refine Below.drew ?_ | refine below_alloc ?_ _ | refine below_trans'' (by assumption) ?_) | exact Nat.le_refl _ | (focus (simp; done)) | (focus (simp; omega)) | omega))
  clear hB1 HE
  go_wp2_with fail
  refine (middles_any lo hi np w1).mono ?_
  rintro e w2 ⟨rfl, hw2⟩
  have hB3 : Below w.heap.size w w2 := by subst hw2; exact (by repeat (first | (with_reducible first | exact Below.refl _ _ | refine Below.setCell ?_ ?_ _ | refine below_drewN ?_ _ | refine Below.drew ?_ | refine below_alloc ?_ _ | refine below_trans'' (by assumption) ?_) | exact Nat.le_refl _ | (focus (simp; done)) | (focus (simp; omega)) | omega))
  have x0 : Boxed w2 w1.heap.size 3 (.int .i64 lo) := by subst hw2; exact ((Boxed.new _ _ _).alloc _).alloc _
  have x1 : Boxed w2 (w1.heap.size + 1) 3 (.int .i64 hi) := by subst hw2; exact (boxed_new' (by simp)).alloc _
  have x2 : Boxed w2 (w1.heap.size + 2) 3 (.int .i64 np) := by subst hw2; exact boxed_new' (by simp)
  have HC := Lib.hid (collect_ok 85 #[.pointer (some ⟨w1.heap.size + 2, 0, none⟩), .pointer (some ⟨w1.heap.size, 0, none⟩), .pointer (some ⟨w1.heap.size + 1, 0, none⟩)] (mids lo hi np np) (fun _ => True) w2 w2 (Below.refl _ _) (by rw [mids_length]; exact hp) (run_enter Tryz.func85 (by kernel_rfl) rfl)
    (fun k hk => by have h := middles_stops lo hi np k hk w1.heap.size (w1.heap.size + 1) (w1.heap.size + 2) h0 h1 h2 hp w2 (HG.out.below hB3) x0.cell x1.cell x2.cell; rw [mids_length]; exact h))
  clear hw2 x0 x1 x2 hB2
  go_wp2_with fail
  refine HC.out.mono ?_
  rintro e w3 ⟨v, rfl, hrow, hB4⟩
  have HRB := Lib.hid (ownsRow_base hrow hB3.size)
  obtain ⟨sa, sc, rfl, _⟩ := row_shape hrow
  clear hrow
  have hB5 : Below w.heap.size w w3 := below_trans' hB3 hB4
  go_wp2_with fail
  go_ret2
  exact ⟨_, rfl, HRB.out, hB5⟩
end Go.Proofs.YtjpigaobeegbgaaGreatDoor
/- The walk of kingpostlaw50.awake. -/
namespace Go.Proofs.YtjpigaobeegbgaaGreatDoor
open Go.RowKit Go.Shelf
/-- the side and the roof of the example -/
def wSide (x y : Int) : Side := ⟨x, y, 1, 1, false, 0, 0⟩
def wRing : Ring := [wSide 0 0, wSide 10 0, wSide 10 4, wSide 0 4]
theorem wRing_bds {i : Nat} (h : i < wRing.length) : i = 0 ∨ i = 1 ∨ i = 2 ∨ i = 3 := by
  have : wRing.length = 4 := rfl
  omega
theorem wRing_valid : Valid [wRing] where
  ne := by simp
  nes := fun r hr => by
    obtain rfl : r = 0 := by simp at hr; omega
    exact (by decide : (4 : Nat) ≠ 0) ∘ fun h => by rw [show rg [wRing] 0 = wRing from rfl] at h; exact absurd h (by simp [wRing])
  tot := by decide
  ran := fun r hr i hi => by
    obtain rfl : r = 0 := by simp at hr; omega
    rcases wRing_bds hi with rfl | rfl | rfl | rfl <;> (unfold RSide Ran; decide)
  shp := fun r hr => by
    obtain rfl : r = 0 := by simp at hr; omega
    refine ⟨by decide, fun i hi => ?_⟩
    rcases wRing_bds hi with rfl | rfl | rfl | rfl <;> (unfold OkAt; decide)
  crs := by
    rintro ⟨r, i, s, k, hr, hi, hrs, hs, hk, hm⟩
    obtain rfl : r = 0 := by simp at hr; omega
    obtain rfl : s = 0 := by simp at hs; omega
    have e : rg [wRing] 0 = wRing := rfl
    rw [e] at hi hk
    unfold Meet Skip Touch at hm
    rcases wRing_bds hi with rfl | rfl | rfl | rfl <;> rcases wRing_bds hk with rfl | rfl | rfl | rfl <;> revert hm <;> decide
  plc := by
    refine ⟨by decide, fun r h1 h2 => ?_⟩
    simp at h2
    omega
  rfx := by
    refine ⟨fun r hr i hi => ?_, 0, 0, by decide, by decide, by decide⟩
    obtain rfl : r = 0 := by simp at hr; omega
    unfold Bad
    rcases wRing_bds hi with rfl | rfl | rfl | rfl <;> decide
set_option maxHeartbeats 800000 in
theorem wide1_ok (x y : Int) (w : World) : Calls Tryz.prog 83 #[.int .i64 x, .int .i64 y] w (RetB (sideV (wSide x y)) w) := by
  unfold sideV wSide
  go_enter Tryz.func83, Tryz.ntmps83
  go_wp2_with fail
  exact bodyPost_ret (v := .agg #[.int .i64 x, .int .i64 y, .int .i64 1, .int .i64 1, .bool false, .int .i64 0, .int .i64 0]) (by simp [results, Tryz.results83, go_sem]) rfl ⟨rfl, (by repeat (first | (with_reducible first | exact Below.refl _ _ | refine Below.setCell ?_ ?_ _ | refine below_drewN ?_ _ | refine Below.drew ?_ | refine below_alloc ?_ _ | refine below_trans'' (by assumption) ?_) | exact Nat.le_refl _ | (focus (simp; done)) | (focus (simp; omega)) | omega))⟩
/-- the example's roof is returned -/
def RetRoof (P : List Ring) (w : World) (e : Ending) (w' : World) : Prop := ∃ u, e = .returned (.agg #[u, .slice none 0 0, .slice none 0 0, .slice none 0 0]) ∧ IsPlan w' (.agg #[u]) P ∧ Below w.heap.size w w'
set_option maxRecDepth 100000 in
set_option maxHeartbeats 1600000 in
theorem wide_ok (w : World) : Calls Tryz.prog 37 #[] w (RetRoof [wRing] w) := by
  have HW := Lib.hid (fun x y w => wide1_ok x y w)
  simp only [sideV, wSide] at HW
  go_enter Tryz.func37, Tryz.ntmps37
  go_wp2_with fail
  refine (HW.out _ _ _).mono ?_
  rintro e w1 ⟨rfl, hB1⟩
  go_wp2_with fail
  refine (HW.out _ _ _).mono ?_
  rintro e w2 ⟨rfl, hB2⟩
  go_wp2_with fail
  refine (HW.out _ _ _).mono ?_
  rintro e w3 ⟨rfl, hB3⟩
  go_wp2_with fail
  refine (HW.out _ _ _).mono ?_
  rintro e w4 ⟨rfl, hB4⟩
  have hb4 : Below w.heap.size w w4 := (by repeat (first | (with_reducible first | exact Below.refl _ _ | refine Below.setCell ?_ ?_ _ | refine below_drewN ?_ _ | refine Below.drew ?_ | refine below_alloc ?_ _ | refine below_trans'' (by assumption) ?_) | exact Nat.le_refl _ | (focus (simp; done)) | (focus (simp; omega)) | omega))
  have hb : Below (w.alloc (.cells #[.slice none 0 0, .slice none 0 0, .slice none 0 0, .slice none 0 0] 35)).heap.size (w.alloc (.cells #[.slice none 0 0, .slice none 0 0, .slice none 0 0, .slice none 0 0] 35)) w4 := below_trans' (below_trans' (below_trans' hB1 hB2) hB3) hB4
  have c0 : w4.cell? ⟨w.heap.size, 0, none⟩ = some (.slice none 0 0) := keep hb (by simp [go_sem])
  have c1 : w4.cell? ⟨w.heap.size, 1, none⟩ = some (.slice none 0 0) := keep hb (by simp [go_sem])
  have c2 : w4.cell? ⟨w.heap.size, 2, none⟩ = some (.slice none 0 0) := keep hb (by simp [go_sem])
  have c3 : w4.cell? ⟨w.heap.size, 3, none⟩ = some (.slice none 0 0) := keep hb (by simp [go_sem])
  have f0 : w4.frozen? ⟨w.heap.size, 0, none⟩ = false := keepf hb (v := .slice none 0 0) (by simp [go_sem]) (by simp [go_sem])
  have f1 : w4.frozen? ⟨w.heap.size, 1, none⟩ = false := keepf hb (v := .slice none 0 0) (by simp [go_sem]) (by simp [go_sem])
  have f2 : w4.frozen? ⟨w.heap.size, 2, none⟩ = false := keepf hb (v := .slice none 0 0) (by simp [go_sem]) (by simp [go_sem])
  have f3 : w4.frozen? ⟨w.heap.size, 3, none⟩ = false := keepf hb (v := .slice none 0 0) (by simp [go_sem]) (by simp [go_sem])
  have z := lt_of_cell c0
  clear hB1 hB2 hB3 hB4 hb
  go_wp2_with fail
  refine bodyPost_ret (v := .agg #[.slice (some ⟨w4.heap.size + 1, 0, none⟩) 1 1, .slice none 0 0, .slice none 0 0, .slice none 0 0]) (by simp [results, Tryz.results37, go_sem, c0, c1, c2, c3, z]) rfl ⟨_, rfl, ?_, (by repeat (first | (with_reducible first | exact Below.refl _ _ | refine Below.setCell ?_ ?_ _ | refine below_drewN ?_ _ | refine Below.drew ?_ | refine below_alloc ?_ _ | refine below_trans'' (by assumption) ?_) | exact Nat.le_refl _ | (focus (simp; done)) | (focus (simp; omega)) | omega))⟩
  have hz : w.heap.size ≠ w4.heap.size := by omega
  have hz1 : w.heap.size ≠ w4.heap.size + 1 := by omega
  refine ⟨_, rfl, _, _, rfl, fun _ => ⟨_, _, rfl, fun k hk => ?_⟩⟩
  obtain rfl : k = 0 := by simp at hk; omega
  refine ⟨.slice (some ⟨w4.heap.size, 0, none⟩) 4 4, by simp [go_sem, hz, hz1], some ⟨w4.heap.size, 0, none⟩, 4, rfl, fun _ => ⟨_, _, rfl, fun i hi => ?_⟩⟩
  rcases wRing_bds hi with rfl | rfl | rfl | rfl <;> (refine ⟨?_, ?_, ?_, ?_, ?_, ?_, ?_⟩ <;> simp [go_sem, hz, hz1] <;> rfl)
theorem wide_lo : eLo (sd (rg [wRing] 0) 0) (nx (rg [wRing] 0) 0) = 0 := by decide
theorem wide_hi : eHi (sd (rg [wRing] 0) 0) (nx (rg [wRing] 0) 0) = 10 := by decide
theorem wide_parts : parts 0 10 2 = 3 := by decide
theorem wide_mids : (mids 0 10 3 3).map numS = [⟨#[53, 47, 51]⟩, ⟨#[53]⟩, ⟨#[50, 53, 47, 51]⟩] := by decide +kernel
theorem text_125 : ratText ((125 : Int) : Rat) = [49, 50, 53] := by decide +kernel
theorem isStrs_lit3 (w : World) (a b c : ByteArray) (t : TypeId) : IsStrs (w.alloc (.cells #[.string a, .string b, .string c] t)) (.slice (some ⟨w.heap.size, 0, none⟩) 3 3) [a, b, c] := by
  refine ⟨some ⟨w.heap.size, 0, none⟩, 3, rfl, fun _ => ⟨w.heap.size, 0, rfl, fun k hk => ?_⟩⟩
  have : k = 0 ∨ k = 1 ∨ k = 2 := by simp at hk; omega
  rcases this with rfl | rfl | rfl <;> simp [go_sem]
set_option maxRecDepth 100000 in
set_option maxHeartbeats 1600000 in
theorem awake50_ok (w : World) (hG : Glo w) : Calls Tryz.prog 11 #[] w (RetB (.bool true) w) := by
  have HG := Lib.hid hG
  clear hG
  go_enter Tryz.func11, Tryz.ntmps11
  go_wp2_with fail
  refine (flow_ok _ HG.out).mono ?_
  rintro e w1 ⟨a, ha, rfl, hB1⟩
  have hE : (a.toList == [49, 50, 53]) = true := eq_of_list (by rw [ha, text_125])
  clear ha
  go_wp2_with fail
  refine (wide_ok _).mono ?_
  rintro e w2 ⟨u, rfl, hp, hB2⟩
  have hb2 : Below w.heap.size w w2 := below_trans' hB1 hB2
  have HP := Lib.hid hp
  clear hp hB1 hB2
  go_wp2_with fail
  have ho := outlets_ok [wRing] u w2 0 0 0 2 (HG.out.below hb2) HP.out wRing_valid (by decide) (by decide) (by decide) (by decide) (by decide) (by decide) (by rw [wide_lo, wide_hi, wide_parts]; decide)
  rw [wide_lo, wide_hi, wide_parts] at ho
  refine ho.mono ?_
  clear ho
  rintro e w3 ⟨v, rfl, hr, hB3⟩
  have hb3 : Below w.heap.size w w3 := below_trans' hb2 hB3
  have hst := isStrs_row hr
  rw [wide_mids] at hst
  have HS := Lib.hid hst
  clear hst hr hB3 hb2 HP
  go_wp2_with fail
  refine (Equal_any _ _ _ _ _ (HS.out.below (below_alloc (Below.refl _ _) _)) (isStrs_lit3 w3 _ _ _ _) (by decide)).mono ?_
  rintro e w4 ⟨rfl, hB4⟩
  have hb4 : Below w.heap.size w w4 := (by repeat (first | (with_reducible first | exact Below.refl _ _ | refine Below.setCell ?_ ?_ _ | refine below_drewN ?_ _ | refine Below.drew ?_ | refine below_alloc ?_ _ | refine below_trans'' (by assumption) ?_) | exact Nat.le_refl _ | (focus (simp; done)) | (focus (simp; omega)) | omega))
  rw [decide_eq_true (by rfl)]
  clear hB4
  go_wp2_with fail
  go_ret
  exact ⟨rfl, hb4⟩
end Go.Proofs.YtjpigaobeegbgaaGreatDoor
/- Walks: the plan's reference: Great. -/
namespace Go.Proofs.YtjpigaobeegbgaaGreatDoor
open Go.RowKit
/-- a plan that fits into memory -/
def FitsMem (P : List Ring) : Prop := P.length ≤ 8796093022208 ∧ ∀ r, r < P.length → (rg P r).length ≤ 4398046511104
theorem total_fits {P : List Ring} (h : ∀ r, r < P.length → (rg P r).length ≤ 4398046511104) : ∀ k, k ≤ P.length → total P k ≤ k * 4398046511104 := by
  intro k
  induction k with
  | zero => intro _; simp [total]
  | succ k ih => intro hk; have := ih (by omega); have := h k (by omega); simp only [total]; omega
def RetGreat (P : List Ring) (w : World) (e : Ending) (w' : World) : Prop := ∃ b : Bool, e = .returned (.bool b) ∧ (b = false → P.length ≤ 40 ∧ total P P.length ≤ 40) ∧ Below w.heap.size w w'
set_option maxRecDepth 100000 in
set_option maxHeartbeats 1600000 in
theorem rGreat_any (P : List Ring) (v : Value) (w : World) (hv : IsPlan w v P) (hf : FitsMem P) :
    Calls Tryz.prog 31 #[v, .int .i64 8] w (RetGreat P w) := by
  obtain ⟨u, rfl, hu⟩ := hv
  obtain ⟨a, cap, rfl, h⟩ := hu
  obtain ⟨hf1, hf2⟩ := hf
  have HC := Lib.hid h
  have HF := Lib.hid hf2
  have HTF := Lib.hid (total_fits hf2)
  clear h hf2
  by_cases h40 : P.length ≤ 40
  · go_enter Tryz.func31, Tryz.ntmps31
    go_wp2_with fail
    go_loopw [5, 6] (fun s i wr => ∃ r : Nat, r ≤ P.length ∧ i = .int .i64 r ∧ s = .int .i64 (total P r : Nat) ∧ wr = w.alloc (.cells #[.slice a P.length cap] 24)) (fun _ i _ => P.length - (intOf i).toNat)
    case atStart => exact ⟨0, by omega, rfl, rfl, rfl⟩
    case round =>
      obtain ⟨r, hr, rfl, rfl, rfl⟩ := hrel
      have htr := HTF.out r hr
      by_cases hrP : r < P.length
      · obtain ⟨b, off, rfl, hc⟩ := HC.out (fun h => by rw [h] at hrP; simp at hrP)
        obtain ⟨ur, cr, hur⟩ := hc r hrP
        obtain ⟨ar, capr, rfl, hcr⟩ := hur
        have cr' := keep (below_alloc (Below.refl _ _) (.cells #[.slice (some ⟨b, off, none⟩) P.length cap] 24)) cr
        have hlr := HF.out r hrP
        have hts := Lib.hid (total_succ P r)
        clear hcr cr hc
        generalize (rg P r).length = n at *
        go_wp2_with fail
        go_roundw
        case rel => exact ⟨r + 1, by omega, by go_num, ret_i64 (by rw [hts.out]; omega), by trivial⟩
        case measure => simp [intOf]; omega
      · have e : r = P.length := by omega
        subst e
        generalize htt : total P P.length = t at *
        have HTT := Lib.hid htt
        clear htt
        by_cases h8 : (8 : Int) < (t : Int)
        · by_cases h24 : (t : Int) ≤ 24
          · go_wp2_with fail
            go_ret
            exact ⟨true, rfl, (fun h => by cases h), (by repeat (first | (with_reducible first | exact Below.refl _ _ | refine Below.setCell ?_ ?_ _ | refine below_drewN ?_ _ | refine Below.drew ?_ | refine below_alloc ?_ _ | refine below_trans'' (by assumption) ?_) | exact Nat.le_refl _ | (focus (simp; done)) | (focus (simp; omega)) | omega))⟩
          · by_cases h4 : (40 : Int) < (t : Int)
            · go_wp2_with fail
              go_ret
              exact ⟨true, rfl, (fun h => by cases h), (by repeat (first | (with_reducible first | exact Below.refl _ _ | refine Below.setCell ?_ ?_ _ | refine below_drewN ?_ _ | refine Below.drew ?_ | refine below_alloc ?_ _ | refine below_trans'' (by assumption) ?_) | exact Nat.le_refl _ | (focus (simp; done)) | (focus (simp; omega)) | omega))⟩
            · have h40' : ¬ (40 : Int) < (P.length : Int) := by omega
              go_wp2_with fail
              go_ret
              exact ⟨false, rfl, fun _ => ⟨h40, by rw [HTT.out]; omega⟩, (by repeat (first | (with_reducible first | exact Below.refl _ _ | refine Below.setCell ?_ ?_ _ | refine below_drewN ?_ _ | refine Below.drew ?_ | refine below_alloc ?_ _ | refine below_trans'' (by assumption) ?_) | exact Nat.le_refl _ | (focus (simp; done)) | (focus (simp; omega)) | omega))⟩
        · have h4 : ¬ (40 : Int) < (t : Int) := by omega
          have h40' : ¬ (40 : Int) < (P.length : Int) := by omega
          go_wp2_with fail
          go_ret
          exact ⟨false, rfl, fun _ => ⟨h40, by rw [HTT.out]; omega⟩, (by repeat (first | (with_reducible first | exact Below.refl _ _ | refine Below.setCell ?_ ?_ _ | refine below_drewN ?_ _ | refine Below.drew ?_ | refine below_alloc ?_ _ | refine below_trans'' (by assumption) ?_) | exact Nat.le_refl _ | (focus (simp; done)) | (focus (simp; omega)) | omega))⟩
  · have h40' : (40 : Int) < (P.length : Int) := by omega
    go_enter Tryz.func31, Tryz.ntmps31
    go_wp2_with fail
    go_loopw [5, 6] (fun s i wr => ∃ (r : Nat) (z : Int), r ≤ P.length ∧ i = .int .i64 r ∧ s = .int .i64 z ∧ wr = w.alloc (.cells #[.slice a P.length cap] 24)) (fun _ i _ => P.length - (intOf i).toNat)
    case atStart => exact ⟨0, 0, by omega, rfl, rfl, rfl⟩
    case round =>
      obtain ⟨r, z, hr, rfl, rfl, rfl⟩ := hrel
      by_cases hrP : r < P.length
      · obtain ⟨b, off, rfl, hc⟩ := HC.out (fun h => by rw [h] at hrP; simp at hrP)
        obtain ⟨ur, cr, hur⟩ := hc r hrP
        obtain ⟨ar, capr, rfl, hcr⟩ := hur
        have cr' := keep (below_alloc (Below.refl _ _) (.cells #[.slice (some ⟨b, off, none⟩) P.length cap] 24)) cr
        clear hcr cr hc
        generalize (rg P r).length = n at *
        go_wp2_with fail
        go_roundw
        case rel => exact ⟨r + 1, _, by omega, by go_num, rfl, by trivial⟩
        case measure => simp [intOf]; omega
      · have e : r = P.length := by omega
        subst e
        by_cases h8 : (8 : Int) < z
        · by_cases h24 : z ≤ 24
          · go_wp2_with fail
            go_ret
            exact ⟨true, rfl, (fun h => by cases h), (by repeat (first | (with_reducible first | exact Below.refl _ _ | refine Below.setCell ?_ ?_ _ | refine below_drewN ?_ _ | refine Below.drew ?_ | refine below_alloc ?_ _ | refine below_trans'' (by assumption) ?_) | exact Nat.le_refl _ | (focus (simp; done)) | (focus (simp; omega)) | omega))⟩
          · by_cases h4 : (40 : Int) < z
            · go_wp2_with fail
              go_ret
              exact ⟨true, rfl, (fun h => by cases h), (by repeat (first | (with_reducible first | exact Below.refl _ _ | refine Below.setCell ?_ ?_ _ | refine below_drewN ?_ _ | refine Below.drew ?_ | refine below_alloc ?_ _ | refine below_trans'' (by assumption) ?_) | exact Nat.le_refl _ | (focus (simp; done)) | (focus (simp; omega)) | omega))⟩
            · go_wp2_with fail
              go_ret
              exact ⟨true, rfl, (fun h => by cases h), (by repeat (first | (with_reducible first | exact Below.refl _ _ | refine Below.setCell ?_ ?_ _ | refine below_drewN ?_ _ | refine Below.drew ?_ | refine below_alloc ?_ _ | refine below_trans'' (by assumption) ?_) | exact Nat.le_refl _ | (focus (simp; done)) | (focus (simp; omega)) | omega))⟩
        · have h4 : ¬ (40 : Int) < z := by omega
          go_wp2_with fail
          go_ret
          exact ⟨true, rfl, (fun h => by cases h), (by repeat (first | (with_reducible first | exact Below.refl _ _ | refine Below.setCell ?_ ?_ _ | refine below_drewN ?_ _ | refine Below.drew ?_ | refine below_alloc ?_ _ | refine below_trans'' (by assumption) ?_) | exact Nat.le_refl _ | (focus (simp; done)) | (focus (simp; omega)) | omega))⟩
end Go.Proofs.YtjpigaobeegbgaaGreatDoor
/- Walks: looking for a side with a condition; kingpostlaw50.fine. -/
namespace Go.Proofs.YtjpigaobeegbgaaGreatDoor
open Go.RowKit
/-- the place of the first side with a condition, or -1 -/
def RetIdx (l : Ring) (g : Side → Bool) (w : World) (e : Ending) (w' : World) : Prop := ∃ n : Int, e = .returned (.int .i64 n) ∧ -1 ≤ n ∧ n ≤ 100000 ∧ (n < 0 → ∀ k, k < l.length → g (sd l k) = false) ∧ Below w.heap.size w w'
set_option maxRecDepth 100000 in
set_option maxHeartbeats 800000 in
theorem indexSide_any (F : Nat) (cap0 : Array Value) (l : Ring) (g : Side → Bool) (v : Value) (w : World) (hv : IsRing w v l) (hl : l.length ≤ 100000)
    (hE : ∀ args w, (callFunc F args).run Tryz.prog w = .ok (.enter F args) w)
    (hF : ∀ k, k < l.length → ∀ W, Below w.heap.size w W → Calls Tryz.prog F (#[sideV (sd l k)] ++ cap0) W (RetB (.bool (g (sd l k))) W)) :
    Calls Tryz.prog 79 #[v, .func (.func F) #[] cap0] w (RetIdx l g w) := by
  obtain ⟨a, cap, rfl, h⟩ := hv
  have HC := Lib.hid h
  have HF := Lib.hid hF
  clear h hF
  go_enter Tryz.func79, Tryz.ntmps79
  go_wp2_with fail
  go_loopw [8] (fun i wr => ∃ k : Nat, k ≤ l.length ∧ i = .int .i64 k ∧ Below w.heap.size w wr ∧ Hid (∀ j, j < k → g (sd l j) = false)) (fun i _ => l.length - (intOf i).toNat)
  case atStart => exact ⟨0, by omega, rfl, Below.refl _ _, Lib.hid (by intro j h; omega)⟩
  case round =>
    obtain ⟨k, hk, rfl, hB, hno⟩ := hrel
    by_cases hlt : k < l.length
    · obtain ⟨b, off, rfl, hc⟩ := HC.out (fun h => by rw [h] at hlt; simp at hlt)
      obtain ⟨d0, d1, d2, d3, d4, d5, d6⟩ := (hc k hlt).below hB
      have hf := Lib.hid (HF.out k hlt wr hB)
      unfold sideV at hf
      clear hc
      by_cases hg : g (sd l k) = true
      · rw [hg] at hf
        clear hg
        go_wp2_with fail
        refine hf.out.mono ?_
        rintro e w1 ⟨rfl, hB1⟩
        have hB2 : Below w.heap.size w w1 := below_trans' hB hB1
        clear hB1 d0 d1 d2 d3 d4 d5 d6
        go_wp2_with fail
        go_ret
        exact ⟨k, rfl, by omega, by omega, fun h => by omega, hB2⟩
      · have hg' : g (sd l k) = false := by simpa using hg
        have hno' : Hid (∀ j, j < k + 1 → g (sd l j) = false) := Lib.hid (fun j hj => by
          by_cases h : j < k
          · exact hno.out j h
          · obtain rfl : j = k := by omega
            exact hg')
        rw [hg'] at hf
        clear hg hg'
        go_wp2_with fail
        refine hf.out.mono ?_
        rintro e w1 ⟨rfl, hB1⟩
        have hB2 : Below w.heap.size w w1 := below_trans' hB hB1
        clear hB1 d0 d1 d2 d3 d4 d5 d6
        go_wp2_with fail
        go_roundw
        case rel => exact ⟨k + 1, hlt, by go_num, hB2, hno'⟩
        case measure => simp [intOf]; omega
    · have e : k = l.length := by omega
      subst e
      go_wp2_with fail
      go_ret
      exact ⟨-1, rfl, by omega, by omega, fun _ => hno.out, hB⟩
/-- whether a side has a condition -/
def RetHas (l : Ring) (g : Side → Bool) (w : World) (e : Ending) (w' : World) : Prop := ∃ b : Bool, e = .returned (.bool b) ∧ (b = false → ∀ k, k < l.length → g (sd l k) = false) ∧ Below w.heap.size w w'
set_option maxRecDepth 100000 in
set_option maxHeartbeats 800000 in
theorem containsSide_any (F : Nat) (cap0 : Array Value) (l : Ring) (g : Side → Bool) (v : Value) (w : World) (hv : IsRing w v l) (hl : l.length ≤ 100000)
    (hE : ∀ args w, (callFunc F args).run Tryz.prog w = .ok (.enter F args) w)
    (hF : ∀ k, k < l.length → ∀ W, Below w.heap.size w W → Calls Tryz.prog F (#[sideV (sd l k)] ++ cap0) W (RetB (.bool (g (sd l k))) W)) :
    Calls Tryz.prog 34 #[v, .func (.func F) #[] cap0] w (RetHas l g w) := by
  have HI := Lib.hid (indexSide_any F cap0 l g v w hv hl hE hF)
  clear hF hv
  go_enter Tryz.func34, Tryz.ntmps34
  go_wp2_with fail
  refine HI.out.mono ?_
  rintro e w1 ⟨n, rfl, h1, h2, hno, hB⟩
  have HN := Lib.hid hno
  clear hno
  by_cases hn : n < 0
  · have HN2 := Lib.hid (HN.out hn)
    have hd : decide (0 ≤ n) = false := by simp; omega
    clear HN
    go_wp2_with fail
    go_ret
    exact ⟨false, rfl, fun _ => HN2.out, hB⟩
  · have hd : decide (0 ≤ n) = true := by simp; omega
    go_wp2_with fail
    go_ret
    exact ⟨true, rfl, (fun h => by cases h), hB⟩
/-- a side that lies far off -/
def farB (s : Side) : Bool := decide (200 < s.x) || decide (200 < s.y)
set_option maxHeartbeats 400000 in
theorem fine1_ok (s : Side) (w : World) : Calls Tryz.prog 35 #[sideV s] w (RetB (.bool (farB s)) w) := by
  obtain ⟨x, y, rise, run, gable, plate, over⟩ := s
  unfold sideV farB
  dsimp only
  by_cases h1 : 200 < x
  · have e : (decide (200 < x) || decide (200 < y)) = true := by simp [h1]
    rw [e]
    clear e
    go_enter Tryz.func35, Tryz.ntmps35
    go_wp2_with fail
    go_ret
    exact ⟨rfl, (by repeat (first | (with_reducible first | exact Below.refl _ _ | refine Below.setCell ?_ ?_ _ | refine below_drewN ?_ _ | refine Below.drew ?_ | refine below_alloc ?_ _ | refine below_trans'' (by assumption) ?_) | exact Nat.le_refl _ | (focus (simp; done)) | (focus (simp; omega)) | omega))⟩
  · by_cases h2 : 200 < y
    · have e : (decide (200 < x) || decide (200 < y)) = true := by simp [h2]
      rw [e]
      clear e
      go_enter Tryz.func35, Tryz.ntmps35
      go_wp2_with fail
      go_ret
      exact ⟨rfl, (by repeat (first | (with_reducible first | exact Below.refl _ _ | refine Below.setCell ?_ ?_ _ | refine below_drewN ?_ _ | refine Below.drew ?_ | refine below_alloc ?_ _ | refine below_trans'' (by assumption) ?_) | exact Nat.le_refl _ | (focus (simp; done)) | (focus (simp; omega)) | omega))⟩
    · have e : (decide (200 < x) || decide (200 < y)) = false := by simp [h1, h2]
      rw [e]
      clear e
      go_enter Tryz.func35, Tryz.ntmps35
      go_wp2_with fail
      go_ret
      exact ⟨rfl, (by repeat (first | (with_reducible first | exact Below.refl _ _ | refine Below.setCell ?_ ?_ _ | refine below_drewN ?_ _ | refine Below.drew ?_ | refine below_alloc ?_ _ | refine below_trans'' (by assumption) ?_) | exact Nat.le_refl _ | (focus (simp; done)) | (focus (simp; omega)) | omega))⟩
/-- what 'fine' asks -/
structure Fine (P : List Ring) (i : Nat) : Prop where
  val : Valid P
  lt : i < (flat P).length
  gab : (sd (flat P) i).gable = false
  near : ∀ k, k < (flat P).length → (sd (flat P) k).x ≤ 200 ∧ (sd (flat P) k).y ≤ 200
def RetFine (P : List Ring) (i : Nat) (w : World) (e : Ending) (w' : World) : Prop := ∃ b : Bool, e = .returned (.bool b) ∧ (b = true → Fine P i) ∧ Below w.heap.size w w'
set_option maxRecDepth 100000 in
set_option maxHeartbeats 3200000 in
theorem fine_ok (P : List Ring) (v : Value) (w : World) (i : Nat) (hv : IsPlan w v P) (hf : FitsMem P) (hi : i < 8) :
    Calls Tryz.prog 10 #[v, .int .i64 i] w (RetFine P i w) := by
  have HG := Lib.hid (fun W (hB : Below w.heap.size w W) => rGreat_any P v W (hv.below hB) hf)
  have HC := Lib.hid (fun W (hB : Below w.heap.size w W) h1 h2 => rCheck_any P v W (hv.below hB) h1 h2)
  have HS := Lib.hid (fun W (hB : Below w.heap.size w W) hval => rSides_ok P v W (hv.below hB) hval)
  obtain ⟨u, rfl, hu⟩ := hv
  obtain ⟨a, cap, rfl, h⟩ := hu
  clear h hf
  go_enter Tryz.func10, Tryz.ntmps10
  go_wp2_with fail
  refine (HG.out _ (by repeat (first | (with_reducible first | exact Below.refl _ _ | refine Below.setCell ?_ ?_ _ | refine below_drewN ?_ _ | refine Below.drew ?_ | refine below_alloc ?_ _ | refine below_trans'' (by assumption) ?_) | exact Nat.le_refl _ | (focus (simp; done)) | (focus (simp; omega)) | omega))).mono ?_
  rintro e w1 ⟨b, rfl, hb, hB1⟩
  have HB := Lib.hid hb
  have k1 : w1.cell? ⟨w.heap.size, 0, none⟩ = some (.slice a P.length cap) := keep hB1 (by simp [go_sem])
  have hb1 : Below w.heap.size w w1 := (by repeat (first | (with_reducible first | exact Below.refl _ _ | refine Below.setCell ?_ ?_ _ | refine below_drewN ?_ _ | refine Below.drew ?_ | refine below_alloc ?_ _ | refine below_trans'' (by assumption) ?_) | exact Nat.le_refl _ | (focus (simp; done)) | (focus (simp; omega)) | omega))
  clear hb hB1 HG
  cases b
  · obtain ⟨hP, ht⟩ := HB.out rfl
    go_wp2_with fail
    refine (HC.out _ hb1 hP ht).mono ?_
    rintro e w2 ⟨n, rfl, hn, hB2⟩
    have k2 := keep hB2 k1
    have hb2 : Below w.heap.size w w2 := below_trans' hb1 hB2
    clear hB2 HB HC k1 hb1 hP ht
    by_cases hn0 : n = 0
    · have hval := hn.1 hn0
      subst hn0
      have hT := hval.tot
      have hfl := flat_len P
      clear hn
      go_wp2_with fail
      refine (HS.out _ hb2 hval).mono ?_
      rintro e w3 ⟨v1, rfl, hr1, hB3⟩
      have hb3 : Below w.heap.size w w3 := below_trans' hb2 hB3
      clear hB3 k2 hb2 HS
      have HV := Lib.hid hval
      clear hval
      by_cases hlt : i < (flat P).length
      · have hn : flat P ≠ [] := by intro h; rw [h] at hlt; simp at hlt
        have HR := Lib.hid hr1
        obtain ⟨bs, os, cs, rfl, hc⟩ := hr1.nonempty hn
        have hg := (hc i hlt).2.2.2.2.1
        have hil : (i : Int) < ((flat P).length : Int) := by omega
        have hl : (flat P).length ≤ 100000 := by omega
        have HI := Lib.hid hlt
        clear hc hn hT hfl hlt
        cases hgb : (sd (flat P) i).gable
        · rw [hgb] at hg
          have HGB := Lib.hid hgb
          clear hgb
          go_wp2_with fail
          refine (containsSide_any 35 #[] (flat P) farB _ _ (HR.out.below (Below.refl _ _)) hl (enters_of Tryz.func35 (by kernel_rfl) rfl) (fun k hk W hB => fine1_ok _ W)).mono ?_
          rintro e w4 ⟨b, rfl, hb, hB4⟩
          have hb4 : Below w.heap.size w w4 := below_trans' hb3 hB4
          have HB := Lib.hid hb
          clear hb hB4 hg hil hl HR
          cases b
          · have HB2 := Lib.hid (HB.out rfl)
            clear HB
            go_wp2_with fail
            go_ret
            exact ⟨true, rfl, fun _ => ⟨HV.out, HI.out, HGB.out, fun k hk => by
              have h1 := HB2.out k hk
              simp only [farB, Bool.or_eq_false_iff, decide_eq_false_iff_not] at h1
              omega⟩, hb4⟩
          · go_wp2_with fail
            go_ret
            exact ⟨false, rfl, (fun h => by cases h), hb4⟩
        · rw [hgb] at hg
          clear hgb
          go_wp2_with fail
          go_ret
          exact ⟨false, rfl, (fun h => by cases h), hb3⟩
      · have hil : ¬ (i : Int) < ((flat P).length : Int) := by omega
        obtain ⟨sa, sc, rfl, _⟩ := hr1
        clear hT hfl hlt
        go_wp2_with fail
        go_ret
        exact ⟨false, rfl, (fun h => by cases h), hb3⟩
    · clear hn
      go_wp2_with fail
      go_ret
      exact ⟨false, rfl, (fun h => by cases h), hb2⟩
  · go_wp2_with fail
    go_ret
    exact ⟨false, rfl, (fun h => by cases h), hb1⟩
end Go.Proofs.YtjpigaobeegbgaaGreatDoor
/- Walks: kingpostlaw50.ends. -/
namespace Go.Proofs.YtjpigaobeegbgaaGreatDoor
open Go.RowKit Go.Shelf
/-- a side of a ring that is shaped lies along one axis -/
theorem axis_of {l : Ring} (h : Shaped l) {i : Nat} (hi : i < l.length) : ((sd l i).x = (nx l i).x ∧ (sd l i).y ≠ (nx l i).y) ∨ ((sd l i).x ≠ (nx l i).x ∧ (sd l i).y = (nx l i).y) := by
  rcases (shaped_ways h hi).1 with ⟨h1, h2, _⟩ | ⟨h1, h2, _⟩
  · unfold wx at h1; unfold wy at h2; exact .inl ⟨by omega, by omega⟩
  · unfold wx at h1; unfold wy at h2; exact .inr ⟨by omega, by omega⟩
set_option maxRecDepth 100000 in
set_option maxHeartbeats 4000000 in
theorem ends_ok (P : List Ring) (v : Value) (w : World) (r0 i0 n : Nat) (hv : IsPlan w v P) (hval : Valid P) (hr0 : r0 < P.length) (hi0 : i0 < (rg P r0).length) (hn : n = total P r0 + i0) :
    Calls Tryz.prog 13 #[v, .int .i64 n] w (RetB (.tuple #[.int .i64 (eLo (sd (rg P r0) i0) (nx (rg P r0) i0)), .int .i64 (eHi (sd (rg P r0) i0) (nx (rg P r0) i0)), .bool true]) w) := by
  have hx0 := nxi_lt hi0
  have htl := total_lt hr0
  have hfl := flat_len P
  have hT := hval.tot
  have hax := axis_of (hval.shp r0 hr0) hi0
  have hsB := sd_flat hr0 hi0
  have hsC : sd (flat P) (total P r0 + nxi (rg P r0).length i0) = nx (rg P r0) i0 := sd_flat hr0 hx0
  have HS := Lib.hid (fun W (hB : Below w.heap.size w W) => psides_ok P v W (hv.below hB) hval)
  have HNB := Lib.hid (fun W (hB : Below w.heap.size w W) => pneigh_ok P v W r0 i0 n (hv.below hB) hval hr0 hi0 (by rw [hn]))
  have hfn : flat P ≠ [] := by intro h; rw [h] at hfl; simp at hfl; omega
  obtain ⟨u, rfl, hu⟩ := hv
  obtain ⟨a, cap, rfl, h⟩ := hu
  clear h hval
  obtain ⟨m, hm⟩ : ∃ m, total P r0 + nxi (rg P r0).length i0 = m := ⟨_, rfl⟩
  obtain ⟨pm, hpm⟩ : ∃ m, total P r0 + pvi (rg P r0).length i0 = m := ⟨_, rfl⟩
  rw [← hn] at hsB
  rw [hm] at hsC HNB
  rw [hpm] at HNB
  have hn1 : n < (flat P).length := by omega
  have hm1 : m < (flat P).length := by omega
  have hl1 : (flat P).length ≤ 24 := by omega
  rw [← hsB, ← hsC] at hax ⊢
  clear hsB hsC hm hpm hn hx0 htl hfl hT hi0 hr0
  generalize flat P = l at *
  have HL := Lib.hid (fun W v' (hr : IsRing W v' l) => hr.nonempty hfn)
  clear hfn
  go_enter Tryz.func13, Tryz.ntmps13
  go_wp2_with fail
  refine (HS.out _ (by repeat (first | (with_reducible first | exact Below.refl _ _ | refine Below.setCell ?_ ?_ _ | refine below_drewN ?_ _ | refine Below.drew ?_ | refine below_alloc ?_ _ | refine below_trans'' (by assumption) ?_) | exact Nat.le_refl _ | (focus (simp; done)) | (focus (simp; omega)) | omega))).mono ?_
  rintro e w1 ⟨v1, rfl, hr1, hB1⟩
  have k1 : w1.cell? ⟨w.heap.size, 0, none⟩ = some (.slice a P.length cap) := keep hB1 (by simp [go_sem])
  have hB2 : Below w.heap.size w w1 := (by repeat (first | (with_reducible first | exact Below.refl _ _ | refine Below.setCell ?_ ?_ _ | refine below_drewN ?_ _ | refine Below.drew ?_ | refine below_alloc ?_ _ | refine below_trans'' (by assumption) ?_) | exact Nat.le_refl _ | (focus (simp; done)) | (focus (simp; omega)) | omega))
  clear hB1
  obtain ⟨bs, os, cs, rfl, hc1⟩ := HL.out _ _ hr1
  have hbs : bs < w1.heap.size := lt_of_cell (hc1 n hn1).1
  have hsn := hc1 n hn1
  have hsm := hc1 m hm1
  have hnl : ((n : Nat) : Int) < (l.length : Int) := by omega
  clear hc1 hr1
  go_wp2_with fail
  refine (HNB.out _ hB2).mono ?_
  rintro e w2 ⟨rfl, hB3'⟩
  have hB3 : Below w.heap.size w w2 := below_trans' hB2 hB3'
  have hsn := hsn.below hB3'
  have hsm := hsm.below hB3'
  have hbs2 : bs < w2.heap.size := Nat.lt_of_lt_of_le hbs hB3'.size
  clear hB3' k1 hB2 hbs HNB HS
  have hml : ((m : Nat) : Int) < (l.length : Int) := by omega
  have hm0 : ¬ ((m : Nat) : Int) < 0 := by omega
  clear hn1 hm1 hl1
  generalize sd l n = B at *
  generalize sd l m = C at *
  generalize l.length = ln at *
  have HAX := Lib.hid hax
  clear hax
  have hR : SideAt w2.drew bs (os + n * 7) B ∧ SideAt w2.drew bs (os + m * 7) C ∧ Below w.heap.size w w2.drew ∧ bs < w2.drew.heap.size := ⟨hsn.below (Below.refl _ _).drew, hsm.below (Below.refl _ _).drew, hB3.trans ((Below.refl _ _).drew.mono hB3.size), hbs2⟩
  go_wp2_with fail
  clear hsn hsm hB3 hbs2
  refine region_S (F := [11]) (R := (fun w' => SideAt w' bs (os + n * 7) B ∧ SideAt w' bs (os + m * 7) C ∧ Below w.heap.size w w' ∧ bs < w'.heap.size)) 12 #[false, false, false, false, false, false, false, false, false, false, false, false] (by kernel_rfl) (by kernel_rfl) (by kernel_rfl) (fun _ _ _ _ _ h => h) (fun Q' hQ' hN => ?_)
  generalize w2.drew = wd at *
  refine takeS 48 (i := 0) (v := ?_) (fw := 4) hQ' hR rfl (by kernel_rfl) (by kernel_rfl) (by kernel_rfl) (by kernel_rfl) (by kernel_rfl) (by kernel_rfl) ?_ ?_; rotate_left; (focus (intro wq hRq; obtain ⟨⟨d0, d1, d2, d3, d4, d5, d6⟩, ⟨e0, e1, e2, e3, e4, e5, e6⟩, _, _⟩ := hRq; go_simp; (try with_reducible rfl))); (try simp only [Act.put, List.setIfInBounds_toArray, List.set_cons_zero, List.set_cons_succ])
  refine takeS 49 (i := 1) (v := ?_) (fw := 4) hQ' hR rfl (by kernel_rfl) (by kernel_rfl) (by kernel_rfl) (by kernel_rfl) (by kernel_rfl) (by kernel_rfl) ?_ ?_; rotate_left; (focus (intro wq hRq; obtain ⟨⟨d0, d1, d2, d3, d4, d5, d6⟩, ⟨e0, e1, e2, e3, e4, e5, e6⟩, _, _⟩ := hRq; go_simp; (try with_reducible rfl))); (try simp only [Act.put, List.setIfInBounds_toArray, List.set_cons_zero, List.set_cons_succ])
  refine takeS 50 (i := 2) (v := ?_) (fw := 4) hQ' hR rfl (by kernel_rfl) (by kernel_rfl) (by kernel_rfl) (by kernel_rfl) (by kernel_rfl) (by kernel_rfl) ?_ ?_; rotate_left; (focus (intro wq hRq; obtain ⟨⟨d0, d1, d2, d3, d4, d5, d6⟩, ⟨e0, e1, e2, e3, e4, e5, e6⟩, _, _⟩ := hRq; go_simp; (try with_reducible rfl))); (try simp only [Act.put, List.setIfInBounds_toArray, List.set_cons_zero, List.set_cons_succ])
  refine takeS 51 (i := 3) (v := ?_) (fw := 4) hQ' hR rfl (by kernel_rfl) (by kernel_rfl) (by kernel_rfl) (by kernel_rfl) (by kernel_rfl) (by kernel_rfl) ?_ ?_; rotate_left; (focus (intro wq hRq; obtain ⟨⟨d0, d1, d2, d3, d4, d5, d6⟩, ⟨e0, e1, e2, e3, e4, e5, e6⟩, _, _⟩ := hRq; go_simp; (try with_reducible rfl))); (try simp only [Act.put, List.setIfInBounds_toArray, List.set_cons_zero, List.set_cons_succ])
  refine takeS 52 (i := 4) (v := ?_) (fw := 4) hQ' hR rfl (by kernel_rfl) (by kernel_rfl) (by kernel_rfl) (by kernel_rfl) (by kernel_rfl) (by kernel_rfl) ?_ ?_; rotate_left; (focus (intro wq hRq; obtain ⟨⟨d0, d1, d2, d3, d4, d5, d6⟩, ⟨e0, e1, e2, e3, e4, e5, e6⟩, _, _⟩ := hRq; go_simp; (try with_reducible rfl))); (try simp only [Act.put, List.setIfInBounds_toArray, List.set_cons_zero, List.set_cons_succ])
  refine takeS 53 (i := 5) (v := ?_) (fw := 4) hQ' hR rfl (by kernel_rfl) (by kernel_rfl) (by kernel_rfl) (by kernel_rfl) (by kernel_rfl) (by kernel_rfl) ?_ ?_; rotate_left; (focus (intro wq hRq; obtain ⟨⟨d0, d1, d2, d3, d4, d5, d6⟩, ⟨e0, e1, e2, e3, e4, e5, e6⟩, _, _⟩ := hRq; go_simp; (try with_reducible rfl))); (try simp only [Act.put, List.setIfInBounds_toArray, List.set_cons_zero, List.set_cons_succ])
  refine takeS 54 (i := 6) (v := ?_) (fw := 4) hQ' hR rfl (by kernel_rfl) (by kernel_rfl) (by kernel_rfl) (by kernel_rfl) (by kernel_rfl) (by kernel_rfl) ?_ ?_; rotate_left; (focus (intro wq hRq; obtain ⟨⟨d0, d1, d2, d3, d4, d5, d6⟩, ⟨e0, e1, e2, e3, e4, e5, e6⟩, _, _⟩ := hRq; go_simp; (try with_reducible rfl))); (try simp only [Act.put, List.setIfInBounds_toArray, List.set_cons_zero, List.set_cons_succ])
  refine takeS 55 (i := 7) (v := ?_) (fw := 4) hQ' hR rfl (by kernel_rfl) (by kernel_rfl) (by kernel_rfl) (by kernel_rfl) (by kernel_rfl) (by kernel_rfl) ?_ ?_; rotate_left; (focus (intro wq hRq; obtain ⟨⟨d0, d1, d2, d3, d4, d5, d6⟩, ⟨e0, e1, e2, e3, e4, e5, e6⟩, _, _⟩ := hRq; go_simp; (try with_reducible rfl))); (try simp only [Act.put, List.setIfInBounds_toArray, List.set_cons_zero, List.set_cons_succ])
  refine wpAnyS_ready (rs := [8, 9]) (by kernel_rfl) (by simp) ?_
  refine stepR (i := 8) rfl (by kernel_rfl) (fun K hK => ?_) (stepR (i := 9) rfl (by kernel_rfl) (fun K hK => ?_) (AllReadyS.nil))
  · have hq14 := hR.2.2.2
    have hh14 := hR.2.2.1.size
    go_simp
    refine after_alloc (fun w14 hB' hb14 hz14 => ?_)
    have hb14 : BoxS w14 _ S0 := hb14
    have hR : SideAt w14 bs (os + n * 7) B ∧ SideAt w14 bs (os + m * 7) C ∧ Below w.heap.size w w14 ∧ bs < w14.heap.size := ⟨hR.1.below hB', hR.2.1.below hB', below_trans' hR.2.2.1 hB', Nat.lt_of_lt_of_le hR.2.2.2 hB'.size⟩
    clear hB'
    refine hK.out _ _ hR ?_
    clear hK K
    (try simp only [Act.put, List.setIfInBounds_toArray, List.set_cons_zero, List.set_cons_succ])
    refine wpAnyS_ready (rs := [9]) (by kernel_rfl) (by simp) ?_
    refine stepR (i := 9) rfl (by kernel_rfl) (fun K hK => ?_) (AllReadyS.nil)
    have hq15 := hR.2.2.2
    have hh15 := hR.2.2.1.size
    go_simp
    refine after_alloc (fun w15 hB' hb15 hz15 => ?_)
    have hb15 : BoxS w15 _ S0 := hb15
    have hb14 := hb14.below hB'
    have hR : SideAt w15 bs (os + n * 7) B ∧ SideAt w15 bs (os + m * 7) C ∧ Below w.heap.size w w15 ∧ bs < w15.heap.size := ⟨hR.1.below hB', hR.2.1.below hB', below_trans' hR.2.2.1 hB', Nat.lt_of_lt_of_le hR.2.2.2 hB'.size⟩
    clear hB'
    refine hK.out _ _ hR ?_
    clear hK K
    (try simp only [Act.put, List.setIfInBounds_toArray, List.set_cons_zero, List.set_cons_succ])
    refine wpAnyS_ready (rs := [10]) (by kernel_rfl) (by simp) ?_
    refine stepR (i := 10) rfl (by kernel_rfl) (fun K hK => ?_) (AllReadyS.nil)
    refine wp_store7 _ _ rfl B hb14 rfl rfl (fun wx hS hb14 => ?_)
    have hb15 := hb15.but hS (by omega)
    have hR : SideAt wx bs (os + n * 7) B ∧ SideAt wx bs (os + m * 7) C ∧ Below w.heap.size w wx ∧ bs < wx.heap.size := ⟨hR.1.but hS (by omega), hR.2.1.but hS (by omega), hS.below hR.2.2.1 (by omega), by rw [hS.size]; exact hR.2.2.2⟩
    clear hS
    refine hK.out _ _ hR ?_
    clear hK K
    (try simp only [Act.put, List.setIfInBounds_toArray, List.set_cons_zero, List.set_cons_succ])
    refine wpAnyS_ready (rs := [11]) (by kernel_rfl) (by simp) ?_
    refine stepF (i := 11) rfl (by kernel_rfl) (by kernel_rfl) (fun K hK => ?_) (AllReadyS.nil)
    refine wp_store7 _ _ rfl C hb15 rfl rfl (fun wy hS hb15 => ?_)
    have hb14 := hb14.but hS (by omega)
    have hBn := hS.below hR.2.2.1 (by omega)
    clear hS
    refine hK.out _ _ ?_
    clear hK K
    (try simp only [Act.put, List.setIfInBounds_toArray, List.set_cons_zero, List.set_cons_succ])
    refine wpAnyS_done (by kernel_rfl) ?_ _
    refine hN.out _ _ ?_
    obtain ⟨x14, y14⟩ := hb14.xy
    obtain ⟨x15, y15⟩ := hb15.xy
    clear hR
    by_cases hx : B.y = C.y
    · have hxb : (B.y == C.y) = true := by simp [hx]
      have HE := Lib.hid (show eLo B C = min B.x C.x ∧ eHi B C = max B.x C.x from (fun hne => ⟨if_neg hne, if_neg hne⟩) (by have := HAX.out; omega))
      clear hx
      have hR : (wy.drew.cell? ⟨wd.heap.size, 0, none⟩ = some (.int .i64 B.x) ∧ wy.drew.cell? ⟨wd.heap.size, 1, none⟩ = some (.int .i64 B.y) ∧ wy.drew.cell? ⟨w14.heap.size, 0, none⟩ = some (.int .i64 C.x) ∧ wy.drew.cell? ⟨w14.heap.size, 1, none⟩ = some (.int .i64 C.y)) ∧ Below w.heap.size w wy.drew := ⟨⟨x14, y14, x15, y15⟩, hBn.trans ((Below.refl _ _).drew.mono hBn.size)⟩
      go_wp2_with fail
      refine region_S (F := []) (R := (fun w' => (w'.cell? ⟨wd.heap.size, 0, none⟩ = some (.int .i64 B.x) ∧ w'.cell? ⟨wd.heap.size, 1, none⟩ = some (.int .i64 B.y) ∧ w'.cell? ⟨w14.heap.size, 0, none⟩ = some (.int .i64 C.x) ∧ w'.cell? ⟨w14.heap.size, 1, none⟩ = some (.int .i64 C.y)) ∧ Below w.heap.size w w')) 13 #[false, false, false, false, false, false, false, false, false, false, false, false, false] (by kernel_rfl) (by kernel_rfl) (by kernel_rfl) (fun _ _ _ _ _ h => h) (fun Q' hQ' hN => ?_)
      generalize wy.drew = wz at *
      refine takeS 61 (i := 0) (v := ?_) (fw := 3) hQ' hR rfl (by kernel_rfl) (by kernel_rfl) (by kernel_rfl) (by kernel_rfl) (by kernel_rfl) (by kernel_rfl) ?_ ?_; rotate_left; (focus (intro wq hRq; obtain ⟨⟨c0, c1, c2, c3⟩, _⟩ := hRq; go_simp; (try with_reducible rfl))); (try simp only [Act.put, List.setIfInBounds_toArray, List.set_cons_zero, List.set_cons_succ])
      refine takeS 62 (i := 1) (v := ?_) (fw := 3) hQ' hR rfl (by kernel_rfl) (by kernel_rfl) (by kernel_rfl) (by kernel_rfl) (by kernel_rfl) (by kernel_rfl) ?_ ?_; rotate_left; (focus (intro wq hRq; obtain ⟨⟨c0, c1, c2, c3⟩, _⟩ := hRq; go_simp; (try with_reducible rfl))); (try simp only [Act.put, List.setIfInBounds_toArray, List.set_cons_zero, List.set_cons_succ])
      refine takeS 63 (i := 2) (v := ?_) (fw := 3) hQ' hR rfl (by kernel_rfl) (by kernel_rfl) (by kernel_rfl) (by kernel_rfl) (by kernel_rfl) (by kernel_rfl) ?_ ?_; rotate_left; (focus (intro wq hRq; obtain ⟨⟨c0, c1, c2, c3⟩, _⟩ := hRq; go_simp; (try with_reducible rfl))); (try simp only [Act.put, List.setIfInBounds_toArray, List.set_cons_zero, List.set_cons_succ])
      refine takeS 64 (i := 3) (v := ?_) (fw := 3) hQ' hR rfl (by kernel_rfl) (by kernel_rfl) (by kernel_rfl) (by kernel_rfl) (by kernel_rfl) (by kernel_rfl) ?_ ?_; rotate_left; (focus (intro wq hRq; obtain ⟨⟨c0, c1, c2, c3⟩, _⟩ := hRq; go_simp; (try with_reducible rfl))); (try simp only [Act.put, List.setIfInBounds_toArray, List.set_cons_zero, List.set_cons_succ])
      refine takeS 65 (i := 4) (v := ?_) (fw := 3) hQ' hR rfl (by kernel_rfl) (by kernel_rfl) (by kernel_rfl) (by kernel_rfl) (by kernel_rfl) (by kernel_rfl) ?_ ?_; rotate_left; (focus (intro wq hRq; obtain ⟨⟨c0, c1, c2, c3⟩, _⟩ := hRq; go_simp; (try with_reducible rfl))); (try simp only [Act.put, List.setIfInBounds_toArray, List.set_cons_zero, List.set_cons_succ])
      refine takeS 66 (i := 5) (v := ?_) (fw := 3) hQ' hR rfl (by kernel_rfl) (by kernel_rfl) (by kernel_rfl) (by kernel_rfl) (by kernel_rfl) (by kernel_rfl) ?_ ?_; rotate_left; (focus (intro wq hRq; obtain ⟨⟨c0, c1, c2, c3⟩, _⟩ := hRq; go_simp; (try with_reducible rfl))); (try simp only [Act.put, List.setIfInBounds_toArray, List.set_cons_zero, List.set_cons_succ])
      refine takeS 67 (i := 6) (v := ?_) (fw := 3) hQ' hR rfl (by kernel_rfl) (by kernel_rfl) (by kernel_rfl) (by kernel_rfl) (by kernel_rfl) (by kernel_rfl) ?_ ?_; rotate_left; (focus (intro wq hRq; obtain ⟨⟨c0, c1, c2, c3⟩, _⟩ := hRq; go_simp; (try with_reducible rfl))); (try simp only [Act.put, List.setIfInBounds_toArray, List.set_cons_zero, List.set_cons_succ])
      refine takeS 68 (i := 7) (v := ?_) (fw := 3) hQ' hR rfl (by kernel_rfl) (by kernel_rfl) (by kernel_rfl) (by kernel_rfl) (by kernel_rfl) (by kernel_rfl) ?_ ?_; rotate_left; (focus (intro wq hRq; obtain ⟨⟨c0, c1, c2, c3⟩, _⟩ := hRq; go_simp; (try with_reducible rfl))); (try simp only [Act.put, List.setIfInBounds_toArray, List.set_cons_zero, List.set_cons_succ])
      refine takeS 69 (i := 8) (v := ?_) (fw := 3) hQ' hR rfl (by kernel_rfl) (by kernel_rfl) (by kernel_rfl) (by kernel_rfl) (by kernel_rfl) (by kernel_rfl) ?_ ?_; rotate_left; (focus (intro wq hRq; obtain ⟨⟨c0, c1, c2, c3⟩, _⟩ := hRq; go_simp; (try with_reducible rfl))); (try simp only [Act.put, List.setIfInBounds_toArray, List.set_cons_zero, List.set_cons_succ])
      refine takeS 70 (i := 9) (v := ?_) (fw := 3) hQ' hR rfl (by kernel_rfl) (by kernel_rfl) (by kernel_rfl) (by kernel_rfl) (by kernel_rfl) (by kernel_rfl) ?_ ?_; rotate_left; (focus (intro wq hRq; obtain ⟨⟨c0, c1, c2, c3⟩, _⟩ := hRq; go_simp; (try with_reducible rfl))); (try simp only [Act.put, List.setIfInBounds_toArray, List.set_cons_zero, List.set_cons_succ])
      refine takeS 4 (i := 10) (v := ?_) (fw := 3) hQ' hR rfl (by kernel_rfl) (by kernel_rfl) (by kernel_rfl) (by kernel_rfl) (by kernel_rfl) (by kernel_rfl) ?_ ?_; rotate_left; (focus (intro wq hRq; obtain ⟨⟨c0, c1, c2, c3⟩, _⟩ := hRq; go_simp; (try with_reducible rfl))); (try simp only [Act.put, List.setIfInBounds_toArray, List.set_cons_zero, List.set_cons_succ])
      refine takeS 5 (i := 11) (v := ?_) (fw := 3) hQ' hR rfl (by kernel_rfl) (by kernel_rfl) (by kernel_rfl) (by kernel_rfl) (by kernel_rfl) (by kernel_rfl) ?_ ?_; rotate_left; (focus (intro wq hRq; obtain ⟨⟨c0, c1, c2, c3⟩, _⟩ := hRq; go_simp; (try with_reducible rfl))); (try simp only [Act.put, List.setIfInBounds_toArray, List.set_cons_zero, List.set_cons_succ])
      refine takeS 6 (i := 12) (v := ?_) (fw := 3) hQ' hR rfl (by kernel_rfl) (by kernel_rfl) (by kernel_rfl) (by kernel_rfl) (by kernel_rfl) (by kernel_rfl) ?_ ?_; rotate_left; (focus (intro wq hRq; obtain ⟨⟨c0, c1, c2, c3⟩, _⟩ := hRq; go_simp; (try with_reducible rfl))); (try simp only [Act.put, List.setIfInBounds_toArray, List.set_cons_zero, List.set_cons_succ])
      refine wpAnyS_done (by kernel_rfl) ?_ _
      refine hN.out _ _ ?_
      go_wp2_with fail
      go_ret3
      exact ⟨by rw [HE.out.1, HE.out.2]; rfl, hR.2⟩
    · have hxb : (B.y == C.y) = false := by simp [hx]
      have HE := Lib.hid (show eLo B C = min B.y C.y ∧ eHi B C = max B.y C.y from (fun he => ⟨if_pos he, if_pos he⟩) (by have := HAX.out; omega))
      clear hx
      have hR : (wy.drew.cell? ⟨wd.heap.size, 0, none⟩ = some (.int .i64 B.x) ∧ wy.drew.cell? ⟨wd.heap.size, 1, none⟩ = some (.int .i64 B.y) ∧ wy.drew.cell? ⟨w14.heap.size, 0, none⟩ = some (.int .i64 C.x) ∧ wy.drew.cell? ⟨w14.heap.size, 1, none⟩ = some (.int .i64 C.y)) ∧ Below w.heap.size w wy.drew := ⟨⟨x14, y14, x15, y15⟩, hBn.trans ((Below.refl _ _).drew.mono hBn.size)⟩
      go_wp2_with fail
      refine region_S (F := []) (R := (fun w' => (w'.cell? ⟨wd.heap.size, 0, none⟩ = some (.int .i64 B.x) ∧ w'.cell? ⟨wd.heap.size, 1, none⟩ = some (.int .i64 B.y) ∧ w'.cell? ⟨w14.heap.size, 0, none⟩ = some (.int .i64 C.x) ∧ w'.cell? ⟨w14.heap.size, 1, none⟩ = some (.int .i64 C.y)) ∧ Below w.heap.size w w')) 13 #[false, false, false, false, false, false, false, false, false, false, false, false, false] (by kernel_rfl) (by kernel_rfl) (by kernel_rfl) (fun _ _ _ _ _ h => h) (fun Q' hQ' hN => ?_)
      generalize wy.drew = wz at *
      refine takeS 71 (i := 0) (v := ?_) (fw := 3) hQ' hR rfl (by kernel_rfl) (by kernel_rfl) (by kernel_rfl) (by kernel_rfl) (by kernel_rfl) (by kernel_rfl) ?_ ?_; rotate_left; (focus (intro wq hRq; obtain ⟨⟨c0, c1, c2, c3⟩, _⟩ := hRq; go_simp; (try with_reducible rfl))); (try simp only [Act.put, List.setIfInBounds_toArray, List.set_cons_zero, List.set_cons_succ])
      refine takeS 72 (i := 1) (v := ?_) (fw := 3) hQ' hR rfl (by kernel_rfl) (by kernel_rfl) (by kernel_rfl) (by kernel_rfl) (by kernel_rfl) (by kernel_rfl) ?_ ?_; rotate_left; (focus (intro wq hRq; obtain ⟨⟨c0, c1, c2, c3⟩, _⟩ := hRq; go_simp; (try with_reducible rfl))); (try simp only [Act.put, List.setIfInBounds_toArray, List.set_cons_zero, List.set_cons_succ])
      refine takeS 73 (i := 2) (v := ?_) (fw := 3) hQ' hR rfl (by kernel_rfl) (by kernel_rfl) (by kernel_rfl) (by kernel_rfl) (by kernel_rfl) (by kernel_rfl) ?_ ?_; rotate_left; (focus (intro wq hRq; obtain ⟨⟨c0, c1, c2, c3⟩, _⟩ := hRq; go_simp; (try with_reducible rfl))); (try simp only [Act.put, List.setIfInBounds_toArray, List.set_cons_zero, List.set_cons_succ])
      refine takeS 74 (i := 3) (v := ?_) (fw := 3) hQ' hR rfl (by kernel_rfl) (by kernel_rfl) (by kernel_rfl) (by kernel_rfl) (by kernel_rfl) (by kernel_rfl) ?_ ?_; rotate_left; (focus (intro wq hRq; obtain ⟨⟨c0, c1, c2, c3⟩, _⟩ := hRq; go_simp; (try with_reducible rfl))); (try simp only [Act.put, List.setIfInBounds_toArray, List.set_cons_zero, List.set_cons_succ])
      refine takeS 75 (i := 4) (v := ?_) (fw := 3) hQ' hR rfl (by kernel_rfl) (by kernel_rfl) (by kernel_rfl) (by kernel_rfl) (by kernel_rfl) (by kernel_rfl) ?_ ?_; rotate_left; (focus (intro wq hRq; obtain ⟨⟨c0, c1, c2, c3⟩, _⟩ := hRq; go_simp; (try with_reducible rfl))); (try simp only [Act.put, List.setIfInBounds_toArray, List.set_cons_zero, List.set_cons_succ])
      refine takeS 76 (i := 5) (v := ?_) (fw := 3) hQ' hR rfl (by kernel_rfl) (by kernel_rfl) (by kernel_rfl) (by kernel_rfl) (by kernel_rfl) (by kernel_rfl) ?_ ?_; rotate_left; (focus (intro wq hRq; obtain ⟨⟨c0, c1, c2, c3⟩, _⟩ := hRq; go_simp; (try with_reducible rfl))); (try simp only [Act.put, List.setIfInBounds_toArray, List.set_cons_zero, List.set_cons_succ])
      refine takeS 77 (i := 6) (v := ?_) (fw := 3) hQ' hR rfl (by kernel_rfl) (by kernel_rfl) (by kernel_rfl) (by kernel_rfl) (by kernel_rfl) (by kernel_rfl) ?_ ?_; rotate_left; (focus (intro wq hRq; obtain ⟨⟨c0, c1, c2, c3⟩, _⟩ := hRq; go_simp; (try with_reducible rfl))); (try simp only [Act.put, List.setIfInBounds_toArray, List.set_cons_zero, List.set_cons_succ])
      refine takeS 78 (i := 7) (v := ?_) (fw := 3) hQ' hR rfl (by kernel_rfl) (by kernel_rfl) (by kernel_rfl) (by kernel_rfl) (by kernel_rfl) (by kernel_rfl) ?_ ?_; rotate_left; (focus (intro wq hRq; obtain ⟨⟨c0, c1, c2, c3⟩, _⟩ := hRq; go_simp; (try with_reducible rfl))); (try simp only [Act.put, List.setIfInBounds_toArray, List.set_cons_zero, List.set_cons_succ])
      refine takeS 79 (i := 8) (v := ?_) (fw := 3) hQ' hR rfl (by kernel_rfl) (by kernel_rfl) (by kernel_rfl) (by kernel_rfl) (by kernel_rfl) (by kernel_rfl) ?_ ?_; rotate_left; (focus (intro wq hRq; obtain ⟨⟨c0, c1, c2, c3⟩, _⟩ := hRq; go_simp; (try with_reducible rfl))); (try simp only [Act.put, List.setIfInBounds_toArray, List.set_cons_zero, List.set_cons_succ])
      refine takeS 80 (i := 9) (v := ?_) (fw := 3) hQ' hR rfl (by kernel_rfl) (by kernel_rfl) (by kernel_rfl) (by kernel_rfl) (by kernel_rfl) (by kernel_rfl) ?_ ?_; rotate_left; (focus (intro wq hRq; obtain ⟨⟨c0, c1, c2, c3⟩, _⟩ := hRq; go_simp; (try with_reducible rfl))); (try simp only [Act.put, List.setIfInBounds_toArray, List.set_cons_zero, List.set_cons_succ])
      refine takeS 4 (i := 10) (v := ?_) (fw := 3) hQ' hR rfl (by kernel_rfl) (by kernel_rfl) (by kernel_rfl) (by kernel_rfl) (by kernel_rfl) (by kernel_rfl) ?_ ?_; rotate_left; (focus (intro wq hRq; obtain ⟨⟨c0, c1, c2, c3⟩, _⟩ := hRq; go_simp; (try with_reducible rfl))); (try simp only [Act.put, List.setIfInBounds_toArray, List.set_cons_zero, List.set_cons_succ])
      refine takeS 5 (i := 11) (v := ?_) (fw := 3) hQ' hR rfl (by kernel_rfl) (by kernel_rfl) (by kernel_rfl) (by kernel_rfl) (by kernel_rfl) (by kernel_rfl) ?_ ?_; rotate_left; (focus (intro wq hRq; obtain ⟨⟨c0, c1, c2, c3⟩, _⟩ := hRq; go_simp; (try with_reducible rfl))); (try simp only [Act.put, List.setIfInBounds_toArray, List.set_cons_zero, List.set_cons_succ])
      refine takeS 6 (i := 12) (v := ?_) (fw := 3) hQ' hR rfl (by kernel_rfl) (by kernel_rfl) (by kernel_rfl) (by kernel_rfl) (by kernel_rfl) (by kernel_rfl) ?_ ?_; rotate_left; (focus (intro wq hRq; obtain ⟨⟨c0, c1, c2, c3⟩, _⟩ := hRq; go_simp; (try with_reducible rfl))); (try simp only [Act.put, List.setIfInBounds_toArray, List.set_cons_zero, List.set_cons_succ])
      refine wpAnyS_done (by kernel_rfl) ?_ _
      refine hN.out _ _ ?_
      go_wp2_with fail
      go_ret3
      exact ⟨by rw [HE.out.1, HE.out.2]; rfl, hR.2⟩
  · have hq15 := hR.2.2.2
    have hh15 := hR.2.2.1.size
    go_simp
    refine after_alloc (fun w15 hB' hb15 hz15 => ?_)
    have hb15 : BoxS w15 _ S0 := hb15
    have hR : SideAt w15 bs (os + n * 7) B ∧ SideAt w15 bs (os + m * 7) C ∧ Below w.heap.size w w15 ∧ bs < w15.heap.size := ⟨hR.1.below hB', hR.2.1.below hB', below_trans' hR.2.2.1 hB', Nat.lt_of_lt_of_le hR.2.2.2 hB'.size⟩
    clear hB'
    refine hK.out _ _ hR ?_
    clear hK K
    (try simp only [Act.put, List.setIfInBounds_toArray, List.set_cons_zero, List.set_cons_succ])
    refine wpAnyS_ready (rs := [8]) (by kernel_rfl) (by simp) ?_
    refine stepR (i := 8) rfl (by kernel_rfl) (fun K hK => ?_) (AllReadyS.nil)
    have hq14 := hR.2.2.2
    have hh14 := hR.2.2.1.size
    go_simp
    refine after_alloc (fun w14 hB' hb14 hz14 => ?_)
    have hb14 : BoxS w14 _ S0 := hb14
    have hb15 := hb15.below hB'
    have hR : SideAt w14 bs (os + n * 7) B ∧ SideAt w14 bs (os + m * 7) C ∧ Below w.heap.size w w14 ∧ bs < w14.heap.size := ⟨hR.1.below hB', hR.2.1.below hB', below_trans' hR.2.2.1 hB', Nat.lt_of_lt_of_le hR.2.2.2 hB'.size⟩
    clear hB'
    refine hK.out _ _ hR ?_
    clear hK K
    (try simp only [Act.put, List.setIfInBounds_toArray, List.set_cons_zero, List.set_cons_succ])
    refine wpAnyS_ready (rs := [10]) (by kernel_rfl) (by simp) ?_
    refine stepR (i := 10) rfl (by kernel_rfl) (fun K hK => ?_) (AllReadyS.nil)
    refine wp_store7 _ _ rfl B hb14 rfl rfl (fun wx hS hb14 => ?_)
    have hb15 := hb15.but hS (by omega)
    have hR : SideAt wx bs (os + n * 7) B ∧ SideAt wx bs (os + m * 7) C ∧ Below w.heap.size w wx ∧ bs < wx.heap.size := ⟨hR.1.but hS (by omega), hR.2.1.but hS (by omega), hS.below hR.2.2.1 (by omega), by rw [hS.size]; exact hR.2.2.2⟩
    clear hS
    refine hK.out _ _ hR ?_
    clear hK K
    (try simp only [Act.put, List.setIfInBounds_toArray, List.set_cons_zero, List.set_cons_succ])
    refine wpAnyS_ready (rs := [11]) (by kernel_rfl) (by simp) ?_
    refine stepF (i := 11) rfl (by kernel_rfl) (by kernel_rfl) (fun K hK => ?_) (AllReadyS.nil)
    refine wp_store7 _ _ rfl C hb15 rfl rfl (fun wy hS hb15 => ?_)
    have hb14 := hb14.but hS (by omega)
    have hBn := hS.below hR.2.2.1 (by omega)
    clear hS
    refine hK.out _ _ ?_
    clear hK K
    (try simp only [Act.put, List.setIfInBounds_toArray, List.set_cons_zero, List.set_cons_succ])
    refine wpAnyS_done (by kernel_rfl) ?_ _
    refine hN.out _ _ ?_
    obtain ⟨x14, y14⟩ := hb14.xy
    obtain ⟨x15, y15⟩ := hb15.xy
    clear hR
    by_cases hx : B.y = C.y
    · have hxb : (B.y == C.y) = true := by simp [hx]
      have HE := Lib.hid (show eLo B C = min B.x C.x ∧ eHi B C = max B.x C.x from (fun hne => ⟨if_neg hne, if_neg hne⟩) (by have := HAX.out; omega))
      clear hx
      have hR : (wy.drew.cell? ⟨w15.heap.size, 0, none⟩ = some (.int .i64 B.x) ∧ wy.drew.cell? ⟨w15.heap.size, 1, none⟩ = some (.int .i64 B.y) ∧ wy.drew.cell? ⟨wd.heap.size, 0, none⟩ = some (.int .i64 C.x) ∧ wy.drew.cell? ⟨wd.heap.size, 1, none⟩ = some (.int .i64 C.y)) ∧ Below w.heap.size w wy.drew := ⟨⟨x14, y14, x15, y15⟩, hBn.trans ((Below.refl _ _).drew.mono hBn.size)⟩
      go_wp2_with fail
      refine region_S (F := []) (R := (fun w' => (w'.cell? ⟨w15.heap.size, 0, none⟩ = some (.int .i64 B.x) ∧ w'.cell? ⟨w15.heap.size, 1, none⟩ = some (.int .i64 B.y) ∧ w'.cell? ⟨wd.heap.size, 0, none⟩ = some (.int .i64 C.x) ∧ w'.cell? ⟨wd.heap.size, 1, none⟩ = some (.int .i64 C.y)) ∧ Below w.heap.size w w')) 13 #[false, false, false, false, false, false, false, false, false, false, false, false, false] (by kernel_rfl) (by kernel_rfl) (by kernel_rfl) (fun _ _ _ _ _ h => h) (fun Q' hQ' hN => ?_)
      generalize wy.drew = wz at *
      refine takeS 61 (i := 0) (v := ?_) (fw := 3) hQ' hR rfl (by kernel_rfl) (by kernel_rfl) (by kernel_rfl) (by kernel_rfl) (by kernel_rfl) (by kernel_rfl) ?_ ?_; rotate_left; (focus (intro wq hRq; obtain ⟨⟨c0, c1, c2, c3⟩, _⟩ := hRq; go_simp; (try with_reducible rfl))); (try simp only [Act.put, List.setIfInBounds_toArray, List.set_cons_zero, List.set_cons_succ])
      refine takeS 62 (i := 1) (v := ?_) (fw := 3) hQ' hR rfl (by kernel_rfl) (by kernel_rfl) (by kernel_rfl) (by kernel_rfl) (by kernel_rfl) (by kernel_rfl) ?_ ?_; rotate_left; (focus (intro wq hRq; obtain ⟨⟨c0, c1, c2, c3⟩, _⟩ := hRq; go_simp; (try with_reducible rfl))); (try simp only [Act.put, List.setIfInBounds_toArray, List.set_cons_zero, List.set_cons_succ])
      refine takeS 63 (i := 2) (v := ?_) (fw := 3) hQ' hR rfl (by kernel_rfl) (by kernel_rfl) (by kernel_rfl) (by kernel_rfl) (by kernel_rfl) (by kernel_rfl) ?_ ?_; rotate_left; (focus (intro wq hRq; obtain ⟨⟨c0, c1, c2, c3⟩, _⟩ := hRq; go_simp; (try with_reducible rfl))); (try simp only [Act.put, List.setIfInBounds_toArray, List.set_cons_zero, List.set_cons_succ])
      refine takeS 64 (i := 3) (v := ?_) (fw := 3) hQ' hR rfl (by kernel_rfl) (by kernel_rfl) (by kernel_rfl) (by kernel_rfl) (by kernel_rfl) (by kernel_rfl) ?_ ?_; rotate_left; (focus (intro wq hRq; obtain ⟨⟨c0, c1, c2, c3⟩, _⟩ := hRq; go_simp; (try with_reducible rfl))); (try simp only [Act.put, List.setIfInBounds_toArray, List.set_cons_zero, List.set_cons_succ])
      refine takeS 65 (i := 4) (v := ?_) (fw := 3) hQ' hR rfl (by kernel_rfl) (by kernel_rfl) (by kernel_rfl) (by kernel_rfl) (by kernel_rfl) (by kernel_rfl) ?_ ?_; rotate_left; (focus (intro wq hRq; obtain ⟨⟨c0, c1, c2, c3⟩, _⟩ := hRq; go_simp; (try with_reducible rfl))); (try simp only [Act.put, List.setIfInBounds_toArray, List.set_cons_zero, List.set_cons_succ])
      refine takeS 66 (i := 5) (v := ?_) (fw := 3) hQ' hR rfl (by kernel_rfl) (by kernel_rfl) (by kernel_rfl) (by kernel_rfl) (by kernel_rfl) (by kernel_rfl) ?_ ?_; rotate_left; (focus (intro wq hRq; obtain ⟨⟨c0, c1, c2, c3⟩, _⟩ := hRq; go_simp; (try with_reducible rfl))); (try simp only [Act.put, List.setIfInBounds_toArray, List.set_cons_zero, List.set_cons_succ])
      refine takeS 67 (i := 6) (v := ?_) (fw := 3) hQ' hR rfl (by kernel_rfl) (by kernel_rfl) (by kernel_rfl) (by kernel_rfl) (by kernel_rfl) (by kernel_rfl) ?_ ?_; rotate_left; (focus (intro wq hRq; obtain ⟨⟨c0, c1, c2, c3⟩, _⟩ := hRq; go_simp; (try with_reducible rfl))); (try simp only [Act.put, List.setIfInBounds_toArray, List.set_cons_zero, List.set_cons_succ])
      refine takeS 68 (i := 7) (v := ?_) (fw := 3) hQ' hR rfl (by kernel_rfl) (by kernel_rfl) (by kernel_rfl) (by kernel_rfl) (by kernel_rfl) (by kernel_rfl) ?_ ?_; rotate_left; (focus (intro wq hRq; obtain ⟨⟨c0, c1, c2, c3⟩, _⟩ := hRq; go_simp; (try with_reducible rfl))); (try simp only [Act.put, List.setIfInBounds_toArray, List.set_cons_zero, List.set_cons_succ])
      refine takeS 69 (i := 8) (v := ?_) (fw := 3) hQ' hR rfl (by kernel_rfl) (by kernel_rfl) (by kernel_rfl) (by kernel_rfl) (by kernel_rfl) (by kernel_rfl) ?_ ?_; rotate_left; (focus (intro wq hRq; obtain ⟨⟨c0, c1, c2, c3⟩, _⟩ := hRq; go_simp; (try with_reducible rfl))); (try simp only [Act.put, List.setIfInBounds_toArray, List.set_cons_zero, List.set_cons_succ])
      refine takeS 70 (i := 9) (v := ?_) (fw := 3) hQ' hR rfl (by kernel_rfl) (by kernel_rfl) (by kernel_rfl) (by kernel_rfl) (by kernel_rfl) (by kernel_rfl) ?_ ?_; rotate_left; (focus (intro wq hRq; obtain ⟨⟨c0, c1, c2, c3⟩, _⟩ := hRq; go_simp; (try with_reducible rfl))); (try simp only [Act.put, List.setIfInBounds_toArray, List.set_cons_zero, List.set_cons_succ])
      refine takeS 4 (i := 10) (v := ?_) (fw := 3) hQ' hR rfl (by kernel_rfl) (by kernel_rfl) (by kernel_rfl) (by kernel_rfl) (by kernel_rfl) (by kernel_rfl) ?_ ?_; rotate_left; (focus (intro wq hRq; obtain ⟨⟨c0, c1, c2, c3⟩, _⟩ := hRq; go_simp; (try with_reducible rfl))); (try simp only [Act.put, List.setIfInBounds_toArray, List.set_cons_zero, List.set_cons_succ])
      refine takeS 5 (i := 11) (v := ?_) (fw := 3) hQ' hR rfl (by kernel_rfl) (by kernel_rfl) (by kernel_rfl) (by kernel_rfl) (by kernel_rfl) (by kernel_rfl) ?_ ?_; rotate_left; (focus (intro wq hRq; obtain ⟨⟨c0, c1, c2, c3⟩, _⟩ := hRq; go_simp; (try with_reducible rfl))); (try simp only [Act.put, List.setIfInBounds_toArray, List.set_cons_zero, List.set_cons_succ])
      refine takeS 6 (i := 12) (v := ?_) (fw := 3) hQ' hR rfl (by kernel_rfl) (by kernel_rfl) (by kernel_rfl) (by kernel_rfl) (by kernel_rfl) (by kernel_rfl) ?_ ?_; rotate_left; (focus (intro wq hRq; obtain ⟨⟨c0, c1, c2, c3⟩, _⟩ := hRq; go_simp; (try with_reducible rfl))); (try simp only [Act.put, List.setIfInBounds_toArray, List.set_cons_zero, List.set_cons_succ])
      refine wpAnyS_done (by kernel_rfl) ?_ _
      refine hN.out _ _ ?_
      go_wp2_with fail
      go_ret3
      exact ⟨by rw [HE.out.1, HE.out.2]; rfl, hR.2⟩
    · have hxb : (B.y == C.y) = false := by simp [hx]
      have HE := Lib.hid (show eLo B C = min B.y C.y ∧ eHi B C = max B.y C.y from (fun he => ⟨if_pos he, if_pos he⟩) (by have := HAX.out; omega))
      clear hx
      have hR : (wy.drew.cell? ⟨w15.heap.size, 0, none⟩ = some (.int .i64 B.x) ∧ wy.drew.cell? ⟨w15.heap.size, 1, none⟩ = some (.int .i64 B.y) ∧ wy.drew.cell? ⟨wd.heap.size, 0, none⟩ = some (.int .i64 C.x) ∧ wy.drew.cell? ⟨wd.heap.size, 1, none⟩ = some (.int .i64 C.y)) ∧ Below w.heap.size w wy.drew := ⟨⟨x14, y14, x15, y15⟩, hBn.trans ((Below.refl _ _).drew.mono hBn.size)⟩
      go_wp2_with fail
      refine region_S (F := []) (R := (fun w' => (w'.cell? ⟨w15.heap.size, 0, none⟩ = some (.int .i64 B.x) ∧ w'.cell? ⟨w15.heap.size, 1, none⟩ = some (.int .i64 B.y) ∧ w'.cell? ⟨wd.heap.size, 0, none⟩ = some (.int .i64 C.x) ∧ w'.cell? ⟨wd.heap.size, 1, none⟩ = some (.int .i64 C.y)) ∧ Below w.heap.size w w')) 13 #[false, false, false, false, false, false, false, false, false, false, false, false, false] (by kernel_rfl) (by kernel_rfl) (by kernel_rfl) (fun _ _ _ _ _ h => h) (fun Q' hQ' hN => ?_)
      generalize wy.drew = wz at *
      refine takeS 71 (i := 0) (v := ?_) (fw := 3) hQ' hR rfl (by kernel_rfl) (by kernel_rfl) (by kernel_rfl) (by kernel_rfl) (by kernel_rfl) (by kernel_rfl) ?_ ?_; rotate_left; (focus (intro wq hRq; obtain ⟨⟨c0, c1, c2, c3⟩, _⟩ := hRq; go_simp; (try with_reducible rfl))); (try simp only [Act.put, List.setIfInBounds_toArray, List.set_cons_zero, List.set_cons_succ])
      refine takeS 72 (i := 1) (v := ?_) (fw := 3) hQ' hR rfl (by kernel_rfl) (by kernel_rfl) (by kernel_rfl) (by kernel_rfl) (by kernel_rfl) (by kernel_rfl) ?_ ?_; rotate_left; (focus (intro wq hRq; obtain ⟨⟨c0, c1, c2, c3⟩, _⟩ := hRq; go_simp; (try with_reducible rfl))); (try simp only [Act.put, List.setIfInBounds_toArray, List.set_cons_zero, List.set_cons_succ])
      refine takeS 73 (i := 2) (v := ?_) (fw := 3) hQ' hR rfl (by kernel_rfl) (by kernel_rfl) (by kernel_rfl) (by kernel_rfl) (by kernel_rfl) (by kernel_rfl) ?_ ?_; rotate_left; (focus (intro wq hRq; obtain ⟨⟨c0, c1, c2, c3⟩, _⟩ := hRq; go_simp; (try with_reducible rfl))); (try simp only [Act.put, List.setIfInBounds_toArray, List.set_cons_zero, List.set_cons_succ])
      refine takeS 74 (i := 3) (v := ?_) (fw := 3) hQ' hR rfl (by kernel_rfl) (by kernel_rfl) (by kernel_rfl) (by kernel_rfl) (by kernel_rfl) (by kernel_rfl) ?_ ?_; rotate_left; (focus (intro wq hRq; obtain ⟨⟨c0, c1, c2, c3⟩, _⟩ := hRq; go_simp; (try with_reducible rfl))); (try simp only [Act.put, List.setIfInBounds_toArray, List.set_cons_zero, List.set_cons_succ])
      refine takeS 75 (i := 4) (v := ?_) (fw := 3) hQ' hR rfl (by kernel_rfl) (by kernel_rfl) (by kernel_rfl) (by kernel_rfl) (by kernel_rfl) (by kernel_rfl) ?_ ?_; rotate_left; (focus (intro wq hRq; obtain ⟨⟨c0, c1, c2, c3⟩, _⟩ := hRq; go_simp; (try with_reducible rfl))); (try simp only [Act.put, List.setIfInBounds_toArray, List.set_cons_zero, List.set_cons_succ])
      refine takeS 76 (i := 5) (v := ?_) (fw := 3) hQ' hR rfl (by kernel_rfl) (by kernel_rfl) (by kernel_rfl) (by kernel_rfl) (by kernel_rfl) (by kernel_rfl) ?_ ?_; rotate_left; (focus (intro wq hRq; obtain ⟨⟨c0, c1, c2, c3⟩, _⟩ := hRq; go_simp; (try with_reducible rfl))); (try simp only [Act.put, List.setIfInBounds_toArray, List.set_cons_zero, List.set_cons_succ])
      refine takeS 77 (i := 6) (v := ?_) (fw := 3) hQ' hR rfl (by kernel_rfl) (by kernel_rfl) (by kernel_rfl) (by kernel_rfl) (by kernel_rfl) (by kernel_rfl) ?_ ?_; rotate_left; (focus (intro wq hRq; obtain ⟨⟨c0, c1, c2, c3⟩, _⟩ := hRq; go_simp; (try with_reducible rfl))); (try simp only [Act.put, List.setIfInBounds_toArray, List.set_cons_zero, List.set_cons_succ])
      refine takeS 78 (i := 7) (v := ?_) (fw := 3) hQ' hR rfl (by kernel_rfl) (by kernel_rfl) (by kernel_rfl) (by kernel_rfl) (by kernel_rfl) (by kernel_rfl) ?_ ?_; rotate_left; (focus (intro wq hRq; obtain ⟨⟨c0, c1, c2, c3⟩, _⟩ := hRq; go_simp; (try with_reducible rfl))); (try simp only [Act.put, List.setIfInBounds_toArray, List.set_cons_zero, List.set_cons_succ])
      refine takeS 79 (i := 8) (v := ?_) (fw := 3) hQ' hR rfl (by kernel_rfl) (by kernel_rfl) (by kernel_rfl) (by kernel_rfl) (by kernel_rfl) (by kernel_rfl) ?_ ?_; rotate_left; (focus (intro wq hRq; obtain ⟨⟨c0, c1, c2, c3⟩, _⟩ := hRq; go_simp; (try with_reducible rfl))); (try simp only [Act.put, List.setIfInBounds_toArray, List.set_cons_zero, List.set_cons_succ])
      refine takeS 80 (i := 9) (v := ?_) (fw := 3) hQ' hR rfl (by kernel_rfl) (by kernel_rfl) (by kernel_rfl) (by kernel_rfl) (by kernel_rfl) (by kernel_rfl) ?_ ?_; rotate_left; (focus (intro wq hRq; obtain ⟨⟨c0, c1, c2, c3⟩, _⟩ := hRq; go_simp; (try with_reducible rfl))); (try simp only [Act.put, List.setIfInBounds_toArray, List.set_cons_zero, List.set_cons_succ])
      refine takeS 4 (i := 10) (v := ?_) (fw := 3) hQ' hR rfl (by kernel_rfl) (by kernel_rfl) (by kernel_rfl) (by kernel_rfl) (by kernel_rfl) (by kernel_rfl) ?_ ?_; rotate_left; (focus (intro wq hRq; obtain ⟨⟨c0, c1, c2, c3⟩, _⟩ := hRq; go_simp; (try with_reducible rfl))); (try simp only [Act.put, List.setIfInBounds_toArray, List.set_cons_zero, List.set_cons_succ])
      refine takeS 5 (i := 11) (v := ?_) (fw := 3) hQ' hR rfl (by kernel_rfl) (by kernel_rfl) (by kernel_rfl) (by kernel_rfl) (by kernel_rfl) (by kernel_rfl) ?_ ?_; rotate_left; (focus (intro wq hRq; obtain ⟨⟨c0, c1, c2, c3⟩, _⟩ := hRq; go_simp; (try with_reducible rfl))); (try simp only [Act.put, List.setIfInBounds_toArray, List.set_cons_zero, List.set_cons_succ])
      refine takeS 6 (i := 12) (v := ?_) (fw := 3) hQ' hR rfl (by kernel_rfl) (by kernel_rfl) (by kernel_rfl) (by kernel_rfl) (by kernel_rfl) (by kernel_rfl) ?_ ?_; rotate_left; (focus (intro wq hRq; obtain ⟨⟨c0, c1, c2, c3⟩, _⟩ := hRq; go_simp; (try with_reducible rfl))); (try simp only [Act.put, List.setIfInBounds_toArray, List.set_cons_zero, List.set_cons_succ])
      refine wpAnyS_done (by kernel_rfl) ?_ _
      refine hN.out _ _ ?_
      go_wp2_with fail
      go_ret3
      exact ⟨by rw [HE.out.1, HE.out.2]; rfl, hR.2⟩
end Go.Proofs.YtjpigaobeegbgaaGreatDoor
/- A plan that came in, opened. -/
namespace Go.Proofs.YtjpigaobeegbgaaGreatDoor
open Go.ChangeShapes Go.WideShapes Go.ChangeAt Go.RowKit Go.Deep
theorem spot_none {W : World} {a : Addr} {v : Value} (h : W.cell? a = some v) : a.spot = none := by
  unfold World.cell? at h
  split at h
  · split at h
    · cases h
    · rename_i hs; simpa using hs
  · cases h
theorem Tryz.oneInt : Tryz.prog.cellsOf 3 = 1 := by kernel_rfl
theorem Tryz.oneBool : Tryz.prog.cellsOf 4 = 1 := by kernel_rfl
theorem Tryz.sevenSide : Tryz.prog.cellsOf 65 = 7 := by kernel_rfl
theorem Tryz.oneRing : Tryz.prog.cellsOf 62 = 1 := by kernel_rfl
theorem Tryz.oneRings : Tryz.prog.cellsOf 22 = 1 := by kernel_rfl
theorem Tryz.bytesSide : Tryz.prog.bytesOf 65 = 56 := by kernel_rfl
theorem Tryz.bytesRing : Tryz.prog.bytesOf 62 = 24 := by kernel_rfl
section
variable {H : Type} {enc : TypeId × Value → H} {W : World}
set_option maxRecDepth 100000 in
theorem open_side {n b o : Nat} {cs : List Value} {x : DataW H × List MemPlace} (h1 : ∀ i, i < 7 → W.cell? ⟨b, o + i, none⟩ = cs[i]?) (hl : cs.length = 7) (h2 : DataW.trod enc Tryz.prog W 0 (fun _ => true) true n 65 cs = some x) :
    ∃ s : Side, SideAt W b o s := by
  obtain ⟨xs, k, _, _, _, hxl, hf⟩ := DataW.trod_struct Tryz.underlying65 h2
  match cs, hl with
  | [v0, v1, v2, v3, v4, v5, v6], _ =>
    have get : ∀ i, i < 7 → ∃ y, xs[i]? = some y := fun i hi => ⟨_, List.getElem?_eq_getElem (by rw [hxl]; exact hi)⟩
    obtain ⟨y0, e0⟩ := get 0 (by omega)
    obtain ⟨y1, e1⟩ := get 1 (by omega)
    obtain ⟨y2, e2⟩ := get 2 (by omega)
    obtain ⟨y3, e3⟩ := get 3 (by omega)
    obtain ⟨y4, e4⟩ := get 4 (by omega)
    obtain ⟨y5, e5⟩ := get 5 (by omega)
    obtain ⟨y6, e6⟩ := get 6 (by omega)
    have g0 : DataW.trod enc Tryz.prog W 0 (fun _ => true) true k 3 [v0] = some y0 := by
      have h : DataW.trod enc Tryz.prog W 0 (fun _ => true) true k 3 (([v0, v1, v2, v3, v4, v5, v6].drop 0).take (Tryz.prog.cellsOf 3)) = some y0 := (hf 0 _ rfl).trans e0
      rw [Tryz.oneInt] at h
      exact h
    have g1 : DataW.trod enc Tryz.prog W 0 (fun _ => true) true k 3 [v1] = some y1 := by
      have h : DataW.trod enc Tryz.prog W 0 (fun _ => true) true k 3 (([v0, v1, v2, v3, v4, v5, v6].drop 1).take (Tryz.prog.cellsOf 3)) = some y1 := (hf 1 _ rfl).trans e1
      rw [Tryz.oneInt] at h
      exact h
    have g2 : DataW.trod enc Tryz.prog W 0 (fun _ => true) true k 3 [v2] = some y2 := by
      have h : DataW.trod enc Tryz.prog W 0 (fun _ => true) true k 3 (([v0, v1, v2, v3, v4, v5, v6].drop 2).take (Tryz.prog.cellsOf 3)) = some y2 := (hf 2 _ rfl).trans e2
      rw [Tryz.oneInt] at h
      exact h
    have g3 : DataW.trod enc Tryz.prog W 0 (fun _ => true) true k 3 [v3] = some y3 := by
      have h : DataW.trod enc Tryz.prog W 0 (fun _ => true) true k 3 (([v0, v1, v2, v3, v4, v5, v6].drop 3).take (Tryz.prog.cellsOf 3)) = some y3 := (hf 3 _ rfl).trans e3
      rw [Tryz.oneInt] at h
      exact h
    have g4 : DataW.trod enc Tryz.prog W 0 (fun _ => true) true k 4 [v4] = some y4 := by
      have h : DataW.trod enc Tryz.prog W 0 (fun _ => true) true k 4 (([v0, v1, v2, v3, v4, v5, v6].drop 4).take (Tryz.prog.cellsOf 4)) = some y4 := (hf 4 _ rfl).trans e4
      rw [Tryz.oneBool] at h
      exact h
    have g5 : DataW.trod enc Tryz.prog W 0 (fun _ => true) true k 3 [v5] = some y5 := by
      have h : DataW.trod enc Tryz.prog W 0 (fun _ => true) true k 3 (([v0, v1, v2, v3, v4, v5, v6].drop 5).take (Tryz.prog.cellsOf 3)) = some y5 := (hf 5 _ rfl).trans e5
      rw [Tryz.oneInt] at h
      exact h
    have g6 : DataW.trod enc Tryz.prog W 0 (fun _ => true) true k 3 [v6] = some y6 := by
      have h : DataW.trod enc Tryz.prog W 0 (fun _ => true) true k 3 (([v0, v1, v2, v3, v4, v5, v6].drop 6).take (Tryz.prog.cellsOf 3)) = some y6 := (hf 6 _ rfl).trans e6
      rw [Tryz.oneInt] at h
      exact h
    obtain ⟨n0, q0, _⟩ := DataW.trod_int Tryz.underlying3 g0
    obtain ⟨n1, q1, _⟩ := DataW.trod_int Tryz.underlying3 g1
    obtain ⟨n2, q2, _⟩ := DataW.trod_int Tryz.underlying3 g2
    obtain ⟨n3, q3, _⟩ := DataW.trod_int Tryz.underlying3 g3
    obtain ⟨n4, q4, _⟩ := DataW.trod_bool Tryz.underlying4 g4
    obtain ⟨n5, q5, _⟩ := DataW.trod_int Tryz.underlying3 g5
    obtain ⟨n6, q6, _⟩ := DataW.trod_int Tryz.underlying3 g6
    simp only [List.cons.injEq, and_true] at q0 q1 q2 q3 q4 q5 q6
    subst q0 q1 q2 q3 q4 q5 q6
    exact ⟨⟨n0, n1, n2, n3, n4, n5, n6⟩, h1 0 (by omega), h1 1 (by omega), h1 2 (by omega), h1 3 (by omega), h1 4 (by omega), h1 5 (by omega), h1 6 (by omega)⟩
theorem open_ring {n : Nat} {v : Value} {x : DataW H × List MemPlace} (h : DataW.trod enc Tryz.prog W 0 (fun _ => true) true n 62 [v] = some x) :
    ∃ l : Ring, IsRing W v l ∧ (l = [] ∨ ∃ k ∈ x.1.weights Tryz.prog 62, l.length * 56 ≤ k) := by
  rcases open_slice Tryz.underlying62 h with ⟨hv, _⟩ | ⟨a, len, cap, m, n', D, Pl, hv, _, hlc, _, hm, hx, hel⟩
  · obtain rfl : v = .slice none 0 0 := by simpa using hv
    exact ⟨[], ⟨none, 0, rfl, fun h => absurd rfl h⟩, .inl rfl⟩
  · obtain rfl : v = .slice (some a) len cap := by simpa using hv
    simp only [if_true] at hm
    subst hm
    have each : ∀ i, i < m → ∃ s : Side, ∃ b o, (a.add (i * 7) = ⟨b, o, none⟩ ∧ b = a.block ∧ o = a.off + i * 7) ∧ SideAt W b o s := by
      intro i hi
      obtain ⟨cs, h1, h2⟩ := hel i hi
      rw [Tryz.sevenSide] at h1
      obtain ⟨_, hcl, hc⟩ := World.cells?_some h1
      have hsp : (a.add (i * 7)).spot = none := by
        have h0 := hc 0 (by omega)
        rw [List.getElem?_eq_getElem (by omega)] at h0
        exact spot_none h0
      have e : a.add (i * 7) = ⟨a.block, a.off + i * 7, none⟩ := by
        by_cases hz : i * 7 = 0
        · rw [hz] at hsp ⊢
          cases a
          simp [Addr.add] at hsp ⊢
          exact hsp
        · simp [Addr.add, hz]
      rw [e] at hc
      obtain ⟨s, hs⟩ := open_side (o := a.off + i * 7) (b := a.block) (fun j hj => by rw [← hc j hj, addr_add]) hcl h2
      exact ⟨s, _, _, ⟨e, rfl, rfl⟩, hs⟩
    obtain ⟨S, hS⟩ := choose_lt each
    refine ⟨(List.range len).map S, ⟨some a, m, by simp, fun hl => ?_⟩, .inr ⟨_, by rw [hx]; simp only [DataW.weights, Tryz.underlying62]; exact List.mem_cons.2 (.inl rfl), by simp [Tryz.bytesSide]; omega⟩⟩
    have h0 : 0 < len := by
      rcases Nat.eq_zero_or_pos len with h0 | h0
      · subst h0; simp at hl
      · exact h0
    refine ⟨a.block, a.off, ?_, fun k hk => ?_⟩
    · obtain ⟨b, o, ⟨e, rfl, rfl⟩, _⟩ := hS 0 (by omega)
      have e' : a.add 0 = ⟨a.block, a.off + 0 * 7, none⟩ := by simpa using e
      cases a
      simp [Addr.add] at e' ⊢
      exact e'
    · have hk' : k < len := by simpa using hk
      obtain ⟨b, o, ⟨e, rfl, rfl⟩, hs⟩ := hS k (by omega)
      rw [sd_eq hk]
      simpa using hs
theorem mem_weightsAll {P : Program} {e : TypeId} {d : DataW H} {n : Nat} : ∀ {l : List (DataW H)}, d ∈ l → n ∈ d.weights P e → n ∈ DataW.weightsAll P e l
  | d0 :: l, hd, hn => by
    simp only [DataW.weightsAll, List.mem_append]
    rcases List.mem_cons.1 hd with rfl | hd
    · exact .inl hn
    · exact .inr (mem_weightsAll hd hn)
  | [], hd, _ => by cases hd
theorem open_rings {n : Nat} {v : Value} {x : DataW H × List MemPlace} (h : DataW.trod enc Tryz.prog W 0 (fun _ => true) true n 22 [v] = some x) :
    ∃ P : List Ring, IsRings W v P ∧ (P = [] ∨ ∃ k ∈ x.1.weights Tryz.prog 22, P.length * 24 ≤ k) ∧ ∀ r, r < P.length → rg P r = [] ∨ ∃ k ∈ x.1.weights Tryz.prog 22, (rg P r).length * 56 ≤ k := by
  rcases open_slice1 Tryz.underlying22 Tryz.oneRing h with ⟨hv, _⟩ | ⟨a, len, cap, m, n', V, D, Pl, hv, _, hlc, _, hm, hx, hel⟩
  · obtain rfl : v = .slice none 0 0 := by simpa using hv
    exact ⟨[], ⟨none, 0, rfl, fun h => absurd rfl h⟩, .inl rfl, fun r hr => by simp at hr⟩
  · obtain rfl : v = .slice (some a) len cap := by simpa using hv
    simp only [if_true] at hm
    subst hm
    have each : ∀ i, i < m → ∃ l : Ring, (IsRing W (V i) l ∧ (l = [] ∨ ∃ k ∈ (D i).weights Tryz.prog 62, l.length * 56 ≤ k)) ∧ W.cell? (a.add i) = some (V i) ∧ a.add i = ⟨a.block, a.off + i, none⟩ := by
      intro i hi
      obtain ⟨h1, h2⟩ := hel i hi
      obtain ⟨l, hl, hw⟩ := open_ring h2
      refine ⟨l, ⟨hl, hw⟩, h1, ?_⟩
      have hsp := spot_none h1
      by_cases hz : i = 0
      · subst hz
        cases a
        simp [Addr.add] at hsp ⊢
        exact hsp
      · simp [Addr.add, hz]
    obtain ⟨L, hL⟩ := choose_lt each
    have hlen : ((List.range len).map L).length = len := by simp
    have hrg : ∀ r, r < len → rg ((List.range len).map L) r = L r := fun r hr => by rw [rg_eq (by rw [hlen]; exact hr)]; simp
    refine ⟨(List.range len).map L, ⟨some a, m, by simp, fun hl => ?_⟩, .inr ⟨_, by rw [hx]; simp only [DataW.weights, Tryz.underlying22]; exact List.mem_cons.2 (.inl rfl), by simp [Tryz.bytesRing]; omega⟩, fun r hr => ?_⟩
    · have h0 : 0 < len := by
        rcases Nat.eq_zero_or_pos len with h0 | h0
        · subst h0; simp at hl
        · exact h0
      refine ⟨a.block, a.off, ?_, fun k hk => ?_⟩
      · obtain ⟨_, _, e⟩ := hL 0 (by omega)
        cases a
        simp [Addr.add] at e ⊢
        exact e
      · rw [hlen] at hk
        obtain ⟨⟨hl, _⟩, h1, e⟩ := hL k (by omega)
        rw [hrg k hk]
        exact ⟨V k, by rw [← e]; exact h1, hl⟩
    · rw [hlen] at hr
      rw [hrg r hr]
      rcases (hL r (by omega)).1.2 with h0 | ⟨k, hk, hle⟩
      · exact .inl h0
      · refine .inr ⟨k, ?_, hle⟩
        rw [hx]
        simp only [DataW.weights, Tryz.underlying22]
        refine List.mem_cons.2 (.inr (List.mem_append.2 (.inl (mem_weightsAll (d := D r) (List.mem_map.2 ⟨r, List.mem_range.2 hr, rfl⟩) hk))))
set_option maxRecDepth 100000 in
theorem open_plan {base : Nat} {v : Value} {d : DataW H} {p : List MemPlace} {ts : List TypeId} {ds : List (DataW H)} {j : Nat}
    (hval : Value.okWide Tryz.prog W .any base 24 v) (h : DataW.Trod enc Tryz.prog W 0 (fun _ => true) true 24 v d p)
    (hsz : (DataW.weightsEach Tryz.prog ts ds).all (· ≤ reachBytes) = true) (ht : ts[j]? = some 24) (hd : ds[j]? = some d) : ∃ P : List Ring, IsPlan W v P ∧ FitsMem P := by
  obtain ⟨cs, rfl, hcs⟩ := okWide_struct Tryz.underlying24 hval
  obtain ⟨fuel, hf⟩ := h
  obtain ⟨xs, k, _, hx, hlen, hxl, hfs⟩ := DataW.trod_struct Tryz.underlying24 hf
  have e1 : Tryz.prog.cellsOf 24 = 1 := by kernel_rfl
  rw [e1] at hcs
  obtain ⟨u, rfl⟩ : ∃ u, cs = #[u] := by
    match cs, hcs with
    | ⟨[u]⟩, _ => exact ⟨u, rfl⟩
  obtain ⟨y, rfl⟩ : ∃ y, xs = [y] := by
    match xs, hxl with
    | [y], _ => exact ⟨y, rfl⟩
  have g0 : DataW.trod enc Tryz.prog W 0 (fun _ => true) true k 22 [u] = some y := by
    have h : DataW.trod enc Tryz.prog W 0 (fun _ => true) true k 22 (([u].drop 0).take (Tryz.prog.cellsOf 22)) = some y := hfs 0 _ rfl
    rw [Tryz.oneRings] at h
    exact h
  obtain ⟨P, hP, hw1, hw2⟩ := open_rings g0
  have all : ∀ k ∈ y.1.weights Tryz.prog 22, k < 2 ^ 47 := by
    intro k hk
    have h1 := List.all_eq_true.1 hsz k (DataW.weights_mem_each ht hd k (by
      have hd' : d = .agg [y.1] := by have := congrArg Prod.fst hx; simpa using this
      rw [hd']
      simp only [DataW.weights, Tryz.underlying24, DataW.weightsEach, List.map, List.append_nil]
      exact hk))
    have h2 : k ≤ reachBytes := by simpa using h1
    exact Nat.lt_of_le_of_lt h2 reachBytes_lt
  refine ⟨P, ⟨u, rfl, hP⟩, ?_, fun r hr => ?_⟩
  · rcases hw1 with rfl | ⟨k, hk, hle⟩
    · simp
    · have := all k hk; omega
  · rcases hw2 r hr with h0 | ⟨k, hk, hle⟩
    · rw [h0]; simp
    · have := all k hk; omega
end
end Go.Proofs.YtjpigaobeegbgaaGreatDoor
