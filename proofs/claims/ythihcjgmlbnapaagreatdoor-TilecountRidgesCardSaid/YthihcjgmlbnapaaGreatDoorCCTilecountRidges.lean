/- The statement TilecountRidges: the card of the law's row: for every input the law returns true, and each argument reads as before. No condition. -/
import Derived.Test.YthihcjgmlbnapaaGreatDoorCRTilecountRidges
import Derived.Test.YthihcjgmlbnapaaGreatDoorCards
import Derived.Test.YthihcjgmlbnapaaGreatDoorTie
set_option maxRecDepth 100000
set_option linter.unusedVariables false
set_option linter.unusedSimpArgs false
set_option maxHeartbeats 12800000
namespace Go.Proofs.YthihcjgmlbnapaaGreatDoor.tilecountRidges
open Go.ChangeShapes Go.WideShapes Go.ChangeAt Go.RowKit
theorem plain (f : FuncId) (fn : Func) (hf : Tryz.pinned.checked.prog.funcNamed "kingpost/kingpostlaw48.TilecountRidges" = some f) (hfn : Tryz.pinned.checked.prog.funcs[f]? = some fn) :
    true=Tryz.pinned.checked.prog.looks []∧∀ (j:Nat) t,fn.params[j]?=some t→Tryz.pinned.checked.prog.wantsStandIn t=false:=by
  obtain rfl : f = 3 := Option.some.inj ((show Tryz.prog.funcNamed "kingpost/kingpostlaw48.TilecountRidges" = some 3 by kernel_rfl).symm.trans hf) |>.symm
  obtain rfl:fn=Tryz.f3:=(Option.some.inj (Tryz.func3.symm.trans hfn)).symm
  refine ⟨by as_aux_lemma=>kernel_rfl,fun j t ht=>?_⟩
  rw [Tryz.params3] at ht
  have:t=22∨t=23:=by
    have:=Array.mem_of_getElem? ht
    simp only [List.mem_toArray,List.mem_cons,List.not_mem_nil,or_false] at this
    rcases this with h|h<;>(subst h;simp)
  rcases this with rfl|rfl
  · exact (show Tryz.prog.wantsStandIn 22=false by kernel_rfl)
  · exact (show Tryz.prog.wantsStandIn 23=false by kernel_rfl)
theorem card:Rows.TilecountRidgesCardSaid :=
  Claim7.holds_tied_plain_at .later [] _ _ _ _ said (fun _ h=>by cases h) (by as_aux_lemma=>kernel_rfl) (fun _ h=>by cases h) tilecountRidges_row_tie rfl ⟨rfl,rfl⟩ (by as_aux_lemma=>kernel_rfl) rfl plain (by as_aux_lemma=>kernel_rfl)
#print axioms card
end Go.Proofs.YthihcjgmlbnapaaGreatDoor.tilecountRidges
