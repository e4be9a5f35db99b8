/- Bytes that came in, opened. -/
import Derived.Test.YtjpigaobeegbgaaGreatDoorWFrame
import Derived.Test.YtjpigaobeegbgaaGreatDoorWSpans
namespace Go.Proofs.YtjpigaobeegbgaaGreatDoor
open Go.ChangeShapes Go.WideShapes Go.ChangeAt Go.RowKit
set_option maxRecDepth 100000 in
theorem open_bytes {H : Type} {enc : TypeId × Value → H} {W : World} {base : Nat} {v : Value} {d : DataW H} {p : List MemPlace}
    (hval : Value.okWide Tryz.prog W .any base 47 v) (h : DataW.Trod enc Tryz.prog W 0 (fun _ => true) true 47 v d p) : ∃ l : List Int, IsBytes W v l ∧ Bytes l := by
  obtain ⟨a0, len, cap, rfl⟩ := okWide_slice Tryz.underlying47 hval
  obtain ⟨fuel, hf⟩ := h
  rcases open_ints Tryz.underlying47 Tryz.underlying5 (by kernel_rfl) hf with ⟨hcs, hx⟩ | ⟨a, len', cap', zs, hcs, _, hl, hm, hz, hx, hcell, hwz⟩
  · simp [Value.cells] at hcs
    obtain ⟨rfl, rfl, rfl⟩ := hcs
    exact ⟨[], ⟨none, 0, rfl, fun h => absurd rfl h⟩, bytes_of (by simp)⟩
  · simp [Value.cells] at hcs
    obtain ⟨rfl, rfl, rfl⟩ := hcs
    simp only [if_true] at hz
    have hlt : (zs.take len).length = len := by simp; omega
    refine ⟨zs.take len, ⟨some a, cap, by rw [hlt], fun _ => ⟨a, rfl, fun k hk => ?_⟩⟩, bytes_of (fun x hx => ?_)⟩
    · have e : (zs.take len).getD k 0 = zs.getD k 0 := by
        simp only [List.getD_eq_getElem?_getD]
        rw [List.getElem?_take_of_lt (by omega)]
      rw [e]
      exact hcell k (by omega)
    · have := hwz x (List.mem_of_mem_take hx)
      simpa [Lit.wf, IntKind.min, IntKind.max, IntKind.signed, IntKind.bits] using this
end Go.Proofs.YtjpigaobeegbgaaGreatDoor
