/- The statement CourseGauge: the card of the law's row: for every input the law returns true, and each argument reads as before. No condition. -/
import Derived.Test.YtbbclfbpllbbbaaGreatDoorCRCourseGauge
import Derived.Test.YtbbclfbpllbbbaaGreatDoorCards
import Derived.Test.YtbbclfbpllbbbaaGreatDoorTie
set_option maxRecDepth 100000
set_option linter.unusedVariables false
set_option linter.unusedSimpArgs false
set_option maxHeartbeats 12800000
namespace Go.Proofs.YtbbclfbpllbbbaaGreatDoor.courseGauge
open Go.ChangeShapes Go.WideShapes Go.ChangeAt Go.RowKit
theorem plain (f : FuncId) (fn : Func) (hf : Tryz.pinned.checked.prog.funcNamed "kingpost/kingpostlaw47.CourseGauge" = some f) (hfn : Tryz.pinned.checked.prog.funcs[f]? = some fn) :
    true=Tryz.pinned.checked.prog.looks []∧∀ (j:Nat) t,fn.params[j]?=some t→Tryz.pinned.checked.prog.wantsStandIn t=false:=by
  obtain rfl : f = 5 := Option.some.inj ((show Tryz.prog.funcNamed "kingpost/kingpostlaw47.CourseGauge" = some 5 by kernel_rfl).symm.trans hf) |>.symm
  obtain rfl:fn=Tryz.f5:=(Option.some.inj (Tryz.func5.symm.trans hfn)).symm
  refine ⟨by as_aux_lemma=>kernel_rfl,fun j t ht=>?_⟩
  rw [Tryz.params5] at ht
  have:t=49∨t=25:=by
    have:=Array.mem_of_getElem? ht
    simp only [List.mem_toArray,List.mem_cons,List.not_mem_nil,or_false] at this
    rcases this with h|h<;>(subst h;simp)
  rcases this with rfl|rfl
  · exact (show Tryz.prog.wantsStandIn 49=false by kernel_rfl)
  · exact (show Tryz.prog.wantsStandIn 25=false by kernel_rfl)
theorem card:Rows.CourseGaugeCardSaid :=
  Claim7.holds_tied_plain_at .later [] _ _ _ _ said (fun _ h=>by cases h) (by as_aux_lemma=>kernel_rfl) (fun _ h=>by cases h) courseGauge_row_tie rfl ⟨rfl,rfl⟩ (by as_aux_lemma=>kernel_rfl) rfl plain (by as_aux_lemma=>kernel_rfl)
#print axioms card
end Go.Proofs.YtbbclfbpllbbbaaGreatDoor.courseGauge
