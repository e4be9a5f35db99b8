/- A step of a drawn region whose guard holds. -/
import Derived.Test.YtjpigaobeegbgaaGreatDoorBase
import Derived.Deep.RegionHeld3
import Derived.Deep.RegionWith
import Derived.Deep.DrawnRows
namespace Go.Proofs.YtjpigaobeegbgaaGreatDoor
theorem consW {P : Program} {ops : Array Oper} {Q : Exit → Act → World → Prop} {md : Region.Mode} {S : World → Prop} {fuel : Nat} {listed : Array Bool} {a : Act} {w : World} {i : Nat} {o : Oper} (ho : ops[i]? = some o) (hw : Region.wanted o (yielded ops a.tmps) = true)
    (h : ∀ K' : Act → World → Prop, Shut (∀ a w, S w → (S w → wpAnyH P md ops Q S fuel (listed.setIfInBounds i true) a w) → K' a w) → Oper.wp P o a w K' Q) : AllReadyH P md ops Q S fuel listed a w [i] :=
  AllReadyH.cons ho (fun K' hK => by rw [if_pos hw]; exact h K' hK) AllReadyH.nil
section
variable {P : Program} {ops : Array Oper} {Q : Exit → Act → World → Prop} {md : Region.Mode} {S : World → Prop} {listed : Array Bool} {a : Act} {w : World}
/-- a drawn region under a post that is a letter -/
theorem region_held_abs {id : Nat} (n : Nat) (L : Array Bool) (hm : P.follows .mixedOrders = true) (hn : ops.size = n) (hL : Array.replicate n false = L) (hQ : ∀ c (a : Act) d v w, Q (.panic c) (a.put (some d) v) w → Q (.panic c) a w) (hS : S w.drew)
    (h : ∀ Q' : Exit → Act → World → Prop, (∀ c (a : Act) d v w, Q' (.panic c) (a.put (some d) v) w → Q' (.panic c) a w) → Shut (∀ a w, Q .normal a w → Q' .normal a w) → S w.drew → wpAnyH P .any ops Q' S n L a w.drew) :
    (Code.region id ops true).wp P Q a w := wp_region_held_drew hm hS (by rw [hn, hL]; exact h Q hQ (fun _ _ h => h))
theorem putQ {d : Option Nat} {v : Value} (hQ : ∀ c (a : Act) d v w, Q (.panic c) (a.put (some d) v) w → Q (.panic c) a w) : ∀ c (a : Act) w, Q (.panic c) (a.put d v) w → Q (.panic c) a w := by
  intro c a w h
  cases d with
  | none => exact h
  | some d => exact hQ c a d v w h
theorem takeT (d : Nat) {i : Nat} {oi : Oper} {v : Value} {fuel : Nat} (hQ : ∀ c (a : Act) d v w, Q (.panic c) (a.put (some d) v) w → Q (.panic c) a w) (hS : S w) (hi : ops[i]? = some oi) (hd : oi.dst = some d)
    (hs : Region.noSelect ops = true) (hf : Region.free md ops listed i = true) (hr : (Region.ready md ops listed).contains i = true)
    (hw : Region.wanted oi (yielded ops a.tmps) = true) (hy : ∀ w, S w → (execOp a.eval oi).run P w = .ok (.value v) w)
    (h : wpAnyH P md ops Q S fuel (listed.setIfInBounds i true) (a.put (some d) v) w) : wpAnyH P md ops Q S (fuel + 1) listed a w :=
  wpAnyH_take hi hs hf hr (fun c a w h => putQ hQ c a w h) (Or.inl ⟨hw, hy⟩) hS (by rw [hd]; exact h)
theorem takeF (d : Nat) {i : Nat} {oi : Oper} {fuel : Nat} (hQ : ∀ c (a : Act) d v w, Q (.panic c) (a.put (some d) v) w → Q (.panic c) a w) (hS : S w) (hi : ops[i]? = some oi) (hd : oi.dst = some d)
    (hs : Region.noSelect ops = true) (hf : Region.free md ops listed i = true) (hr : (Region.ready md ops listed).contains i = true)
    (hw : Region.wanted oi (yielded ops a.tmps) = false)
    (h : wpAnyH P md ops Q S fuel (listed.setIfInBounds i true) (a.put (some d) undef) w) : wpAnyH P md ops Q S (fuel + 1) listed a w :=
  wpAnyH_take hi hs hf hr (fun c a w h => putQ hQ c a w h) (Or.inr ⟨hw, rfl⟩) hS (by rw [hd]; exact h)
end
end Go.Proofs.YtjpigaobeegbgaaGreatDoor
