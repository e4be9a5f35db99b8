/- Steps of a drawn region, order by order, under a post that is a letter. -/
import Derived.Test.YtjpigaobeegbgaaGreatDoorDrawn
namespace Go.Proofs.YtjpigaobeegbgaaGreatDoor
section
variable {P : Program} {ops : Array Oper} {Q : Exit → Act → World → Prop} {md : Region.Mode} {listed : Array Bool} {a : Act} {w : World}
theorem region_any_abs {id : Nat} (n : Nat) (L : Array Bool) (hm : P.follows .mixedOrders = true) (hn : ops.size = n) (hL : Array.replicate n false = L) (hQ : ∀ c (a : Act) d v w, Q (.panic c) (a.put (some d) v) w → Q (.panic c) a w)
    (h : ∀ Q' : Exit → Act → World → Prop, (∀ c (a : Act) d v w, Q' (.panic c) (a.put (some d) v) w → Q' (.panic c) a w) → Shut (∀ a w, Q .normal a w → Q' .normal a w) → wpAny P .any ops Q' n L a w.drew) :
    (Code.region id ops true).wp P Q a w := wp_region_any hm (by rw [hn, hL]; exact h Q hQ (fun _ _ h => h))
theorem takeA (d : Nat) {i : Nat} {oi : Oper} {v : Value} {fuel : Nat} (hQ : ∀ c (a : Act) d v w, Q (.panic c) (a.put (some d) v) w → Q (.panic c) a w) (hi : ops[i]? = some oi) (hd : oi.dst = some d)
    (hs : Region.noSelect ops = true) (hf : Region.free md ops listed i = true) (hr : (Region.ready md ops listed).contains i = true)
    (hw : Region.wanted oi (yielded ops a.tmps) = true) (hy : ∀ w, (execOp a.eval oi).run P w = .ok (.value v) w)
    (h : wpAny P md ops Q fuel (listed.setIfInBounds i true) (a.put (some d) v) w) : wpAny P md ops Q (fuel + 1) listed a w :=
  wpAny_take hi hs hf hr (fun c a w h => putQ hQ c a w h) (Or.inl ⟨hw, hy⟩) (by rw [hd]; exact h)
/-- one of those that may come up -/
theorem stepA {i : Nat} {o : Oper} {rs : List Nat} {fuel : Nat} (ho : ops[i]? = some o) (hw : Region.wanted o (yielded ops a.tmps) = true)
    (h : ∀ K' : Act → World → Prop, Shut (∀ a w, wpAny P md ops Q fuel (listed.setIfInBounds i true) a w → K' a w) → Oper.wp P o a w K' Q)
    (hs : AllReady P md ops Q fuel listed a w rs) : AllReady P md ops Q fuel listed a w (i :: rs) :=
  AllReady.cons ho (fun K' hK => by rw [if_pos hw]; exact h K' hK) hs
end
end Go.Proofs.YtjpigaobeegbgaaGreatDoor
