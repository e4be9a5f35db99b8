/- Joined texts: WGlo, WFrame. -/
import Derived.Test.YteepphiomcedfaaGreatDoorJ01
import Derived.Test.YteepphiomcedfaaGreatDoorRows
import Derived.Lib.LaidTab
import Derived.ProofKit
import Derived.Shelf.Vars
import Derived.ReadAgain
import Derived.ChangeStays
import Derived.WalkKit
import Derived.OpenShut
import Derived.Deep.DeepHandedRow
set_option maxRecDepth 100000
set_option linter.unusedVariables false
set_option linter.unusedSimpArgs false
set_option maxHeartbeats 6400000
namespace Go.Proofs.YteepphiomcedfaaGreatDoor
open Go.RowKit
theorem laidMet_tail {P:Program} {x:String × DataW Unit} {rest:List (String × DataW Unit)} {w:World} (h:laidMet P (x::rest) w):laidMet P rest w:=by
 obtain ⟨ps,⟨g,t,cs,fuel,p,q,h1,h2,h3,h4,h5,h6⟩,hn,hc⟩:=h
 subst h6
 refine ⟨q,h5,(List.nodup_append.1 hn).2.1,fun b off hb=>hc b off (List.mem_append_right _ hb)⟩
theorem size_w0:decide (12≤(begin Tryz.prog (fun _ _=>0) default).world.heap.size)=true:=by kernel_rfl
theorem gPow : Tryz.prog.globalNamed "internal/strconv.uint64pow10" = some 2 := by kernel_rfl
theorem tPow:(Tryz.prog.globals[2]?).map (·.type)=some 280:=by kernel_rfl
theorem cPow:Tryz.prog.cellsOf 280=20:=by kernel_rfl
theorem cU64:Tryz.prog.cellsOf 252=1:=by kernel_rfl
theorem globals_le:decide (Tryz.prog.globals.size≤11)=true:=by kernel_rfl
theorem glo_of {W:World} (hL:laidMetH Tryz.prog Rows.gutterFlowsRow.laid W) (hsh:W.ShapedOpen Tryz.prog):Glo W:=by
 have h0:laidMet Tryz.prog Rows.gutterFlowsRow.laid W:=hL
 have h1:=laidMet_tail (laidMet_tail h0)
 refine ⟨Lib.tabIs_of_head gPow tPow Tryz.underlying280 Tryz.underlying252 cU64 cPow h1,cell_of_shapedOpen_int (g:=3) (zero:=#[.int .i64 0]) (t:=3) hsh (of_decide_eq_true (by kernel_rfl)) (by kernel_rfl) rfl (by kernel_rfl) (by kernel_rfl) Tryz.underlying3,?_⟩
 obtain ⟨o,o0,ho,_⟩:=hsh.2 11 (of_decide_eq_true globals_le) (of_decide_eq_true size_w0)
 have:=(Array.getElem?_eq_some_iff.1 ho).1
 omega
end Go.Proofs.YteepphiomcedfaaGreatDoor
namespace Go.Proofs.YteepphiomcedfaaGreatDoor
open Go.ChangeShapes Go.WideShapes Go.ChangeAt Go.RowKit
theorem sameAt_below {w w':World} (hB:Below w.heap.size w w'):∀ p:MemPlace,p.block < w.heap.size→w.sameAt w' p
 | .cell b off,h=>hB.cell (p:=⟨b,off,none⟩) h
 | .map b,h=>hB.block b h
theorem Tryz.laidOutRows:laidOutB Tryz.prog=true:=by kernel_rfl
theorem Tryz.mapsRows:mapsRowed Tryz.prog=true:=by kernel_rfl
theorem Tryz.slicesFull':∀ t e,t < Tryz.prog.types.size→Tryz.prog.underlying t=some (.slice e)→0 < Tryz.prog.cellsOf e:=slices_full_of Tryz.prog (by kernel_rfl)
theorem Tryz.kids:Kids Tryz.prog (fun t=>t < Tryz.prog.types.size):=kids_rows Tryz.laidOutRows Tryz.mapsRows
theorem trodAll_stays {H:Type} {enc:TypeId × Value→H} {w w':World} {sp:Nat→Bool}:∀ {ts:List TypeId} {vs:List Value} {ds:List (DataW H)} {ps:List MemPlace},(∀ t ∈ ts,t < Tryz.prog.types.size) →
  DataW.TrodAll enc Tryz.prog w 0 (fun _=>true) true ts vs ds ps→(∀ p ∈ ps,w.sameAt w' p)→(∀ p ∈ ps,sp p.block=true)→DataW.TrodAll enc Tryz.prog w' 0 sp true ts vs ds ps
 | [],[],[],_,_,h,_,_=>h
 | _::_,_::_,_::_,_,hT,⟨p,q,⟨n,hn⟩,h2,e⟩,hs,hsp =>
  ⟨p,q,⟨n,DataW.trod_stays (T:=fun t=>t < Tryz.prog.types.size) Tryz.kids (fun {t e} ht hu=>Tryz.slicesFull' t e ht hu) (fun h=>by cases h) (hT _ (List.mem_cons.2 (Or.inl rfl))) hn (fun x hx=>hs x (by rw [e];exact List.mem_append_left _ hx)) (fun x hx=>hsp x (by rw [e];exact List.mem_append_left _ hx))⟩,
   trodAll_stays (fun t ht=>hT t (List.mem_cons.2 (Or.inr ht))) h2 (fun x hx=>hs x (by rw [e];exact List.mem_append_right _ hx)) (fun x hx=>hsp x (by rw [e];exact List.mem_append_right _ hx)),e⟩
theorem post_law {H:Type} {enc:TypeId × Value→H} {fn:Func} {s:ChangeSpec} {W W':World} {args:Array Value} {ds gs:List (DataW H)} {before:List MemPlace}
  (hW:DataW.Whole enc Tryz.prog fn.params.toList s.vars false W args.toList ds gs before) (hv:s.vars=[]) (hT:∀ t ∈ fn.params.toList,t < Tryz.prog.types.size) (hrt:fn.resultTypes=#[4])
  (hr:(s.fn H (ds++gs)).results=[.lit (.bool true)]) (ha:(s.fn H (ds++gs)).args=ds) (hvs:(s.fn H (ds++gs)).vars=[]) (hB:Below W.heap.size W W') :
  s.post enc Tryz.prog fn false true false false W args (.bool true) W':=by
 have hW':=hW
 have hlt:=hW.lt
 obtain ⟨p,q,hA,hV,hb,hfz,hnd⟩:=hW
 rw [hv] at hV
 obtain ⟨rfl,rfl⟩:=trodVars_none hV
 rw [List.append_nil] at hb
 subst hb
 refine ⟨ds,[],before,[],before,[],hW',?_,?_,?_,hB.frame _,fun h=>by cases h⟩
 ·rw [hrt,hr]
  exact trodAll_mk1 (shut_bool Tryz.underlying4 _)
 ·rw [ha]
  exact trodAll_stays hT hA (fun x hx=>sameAt_below hB x (hlt x hx)) (fun x hx=>by simpa using hlt x hx)
 ·rw [hv,hvs];rfl
end Go.Proofs.YteepphiomcedfaaGreatDoor
