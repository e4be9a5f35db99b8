/- What a row's list of variables gives: the tables that the walks read. -/
import Derived.Test.YtjpigaobeegbgaaGreatDoorBase
import Derived.Test.YtjpigaobeegbgaaGreatDoorRows
import Derived.Lib.LaidTab
import Derived.ProofKit
import Derived.Shelf.Vars
namespace Go.Proofs.YtjpigaobeegbgaaGreatDoor
open Go.RowKit
theorem laidMet_tail {P : Program} {x : String × DataW Unit} {rest : List (String × DataW Unit)} {w : World} (h : laidMet P (x :: rest) w) : laidMet P rest w := by
  obtain ⟨ps, ⟨g, t, cs, fuel, p, q, h1, h2, h3, h4, h5, h6⟩, hn, hc⟩ := h
  subst h6
  refine ⟨q, h5, (List.nodup_append.1 hn).2.1, fun b off hb => hc b off (List.mem_append_right _ hb)⟩
theorem size_w0 : decide (12 ≤ (begin Tryz.prog (fun _ _ => 0) default).world.heap.size) = true := by kernel_rfl
theorem gPow : Tryz.prog.globalNamed "internal/strconv.uint64pow10" = some 0 := by kernel_rfl
theorem tPow : (Tryz.prog.globals[0]?).map (·.type) = some 254 := by kernel_rfl
theorem cPow : Tryz.prog.cellsOf 254 = 20 := by kernel_rfl
theorem cU64 : Tryz.prog.cellsOf 226 = 1 := by kernel_rfl
theorem globals_le : decide (Tryz.prog.globals.size ≤ 11) = true := by kernel_rfl
/-- what the walks read, out of the row's list and the world's shape -/
theorem glo_of {W : World} (hL : laidMetH Tryz.prog Rows.tilecountSpareRow.laid W) (hsh : W.ShapedOpen Tryz.prog) : Glo W := by
  have h0 : laidMet Tryz.prog Rows.tilecountSpareRow.laid W := hL
  have h1 := laidMet_tail (laidMet_tail h0)
  refine ⟨Lib.tabIs_of_head gPow tPow Tryz.underlying254 Tryz.underlying226 cU64 cPow h1, cell_of_shapedOpen_int (g := 3) (zero := #[.int .i64 0]) (t := 3) hsh (of_decide_eq_true (by kernel_rfl)) (by kernel_rfl) rfl (by kernel_rfl) (by kernel_rfl) Tryz.underlying3, ?_⟩
  obtain ⟨o, o0, ho, _⟩ := hsh.2 11 (of_decide_eq_true globals_le) (of_decide_eq_true size_w0)
  have := (Array.getElem?_eq_some_iff.1 ho).1
  omega
end Go.Proofs.YtjpigaobeegbgaaGreatDoor
