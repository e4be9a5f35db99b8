/- Joined texts: WPCross0, WPCross1, WPCross2. -/
import Derived.Test.YteepphiomcedfaaGreatDoorJ11
import Derived.Test.YteepphiomcedfaaGreatDoorJ10
set_option maxRecDepth 100000
set_option linter.unusedVariables false
set_option linter.unusedSimpArgs false
set_option maxHeartbeats 6400000
namespace Go.Proofs.YteepphiomcedfaaGreatDoor
open Go.RowKit Go.Shelf
attribute [local go_sem] Oper.semAt_some
def boxVals (B C:Side):List Value:=[.int .i64 (min B.x C.x),.int .i64 (min B.y C.y),.int .i64 (max B.x C.x),.int .i64 (max B.y C.y)]
def pbox (P:List Ring) (x:Nat × Nat):List Value:=boxVals (sd (rg P x.1) x.2) (nx (rg P x.1) x.2)
def boxCells (P:List Ring) (xs:List (Nat × Nat)):List Value:=xs.flatMap (pbox P)
def placeCells (xs:List (Nat × Nat)):List Value:=xs.flatMap fun x=>[.int .i64 x.1,.int .i64 x.2]
structure LInv (P:List Ring) (w:World) (xs:List (Nat × Nat)) (v3 v4:Value) (W:World):Prop where
 b3:Boxed W w.heap.size 220 v3
 b4:Boxed W (w.heap.size+1) 221 v4
 r3:W.ownsRow w.heap.size 223 4 v3 xs.length (boxCells P xs)
 r4:W.ownsRow w.heap.size 226 2 v4 xs.length (placeCells xs)
 below:Below w.heap.size w W
 size:w.heap.size+2≤W.heap.size
def KeepCells (W W':World):Prop:=∀ (k:Nat) (o:Obj),W.heap[k]?=some o→o.isCells=true→W'.heap[k]?=some o
theorem keepCells_below {W W':World} (h:Below W.heap.size W W'):KeepCells W W':=fun k o hk _=>(h.block k (Array.getElem?_eq_some_iff.1 hk).1).trans hk
theorem LInv.keeps {P:List Ring} {w:World} {xs:List (Nat × Nat)} {v3 v4:Value} {W W':World} (h:LInv P w xs v3 v4 W) (hk:KeepCells W W') (hB:Below w.heap.size w W') (hz:W.heap.size≤W'.heap.size):LInv P w xs v3 v4 W' :=
 ⟨hk _ _ h.b3 rfl,hk _ _ h.b4 rfl,ownsRow_keeps h.r3 hk,ownsRow_keeps h.r4 hk,hB,Nat.le_trans h.size hz⟩
theorem LInv.below' {P:List Ring} {w:World} {xs:List (Nat × Nat)} {v3 v4:Value} {W W':World} (h:LInv P w xs v3 v4 W) (hB:Below W.heap.size W W'):LInv P w xs v3 v4 W' :=
 h.keeps (keepCells_below hB) (h.below.trans (hB.mono h.below.size)) hB.size
end Go.Proofs.YteepphiomcedfaaGreatDoor
namespace Go.Proofs.YteepphiomcedfaaGreatDoor
open Go.RowKit Go.Shelf
structure Kept2 (u v:Value) (W W':World):Prop where
 os:W'.os=W.os
 tape:W'.tape=W.tape
 output:W'.output=W.output
 size:W.heap.size≤W'.heap.size
 block:∀ k,k < W.heap.size→u.ownBlock≠some k→v.ownBlock≠some k→W'.heap[k]?=W.heap[k]?
theorem Kept2.below' {u v:Value} {W X Y:World} (h:Kept2 u v W X) (hB:Below X.heap.size X Y):Kept2 u v W Y:=⟨hB.os.trans h.os,hB.tape.trans h.tape,hB.output.trans h.output,Nat.le_trans h.size hB.size,fun k hk h1 h2=>(hB.block k (Nat.lt_of_lt_of_le hk h.size)).trans (h.block k hk h1 h2)⟩
structure RR (n:Nat) (x3 x4:Value) (t5:Nat) (r:Nat) (Bx:Nat) (A S C:Side) (W:World):Prop where
 b3:Boxed W n 220 x3
 b4:Boxed W (n+1) 221 x4
 b5:Boxed W t5 3 (.int .i64 r)
 bx:BoxA W Bx A S C
theorem RR.below {n t5 r Bx:Nat} {x3 x4:Value} {A S C:Side} {W W':World} (h:RR n x3 x4 t5 r Bx A S C W) (hB:Below W.heap.size W W'):RR n x3 x4 t5 r Bx A S C W':=⟨boxed_below h.b3 hB,boxed_below h.b4 hB,boxed_below h.b5 hB,h.bx.below hB⟩
end Go.Proofs.YteepphiomcedfaaGreatDoor
namespace Go.Proofs.YteepphiomcedfaaGreatDoor
open Go.RowKit Go.Shelf
structure Lists (P:List Ring) (w:World) (g3 c3 g4 c4:Nat) (W:World):Prop where
 b3:W.cell? ⟨w.heap.size,0,none⟩=some (.slice (some ⟨g3,0,none⟩) (pls P P.length).length c3)
 b4:W.cell? ⟨w.heap.size+1,0,none⟩=some (.slice (some ⟨g4,0,none⟩) (pls P P.length).length c4)
 pl:∀ i (h:i < (pls P P.length).length),W.cell? ⟨g4,i * 2,none⟩=some (.int .i64 ((pls P P.length)[i].1:Nat))∧W.cell? ⟨g4,i * 2+1,none⟩=some (.int .i64 ((pls P P.length)[i].2:Nat))
 bx:∀ i (h:i < (pls P P.length).length),∀ j u,(pbox P (pls P P.length)[i])[j]?=some u→W.cell? ⟨g3,i * 4+j,none⟩=some u
theorem Lists.below {P:List Ring} {w:World} {g3 c3 g4 c4:Nat} {W W':World} (h:Lists P w g3 c3 g4 c4 W) (hB:Below W.heap.size W W'):Lists P w g3 c3 g4 c4 W' :=
 ⟨keep hB h.b3,keep hB h.b4,fun i hi=>⟨keep hB (h.pl i hi).1,keep hB (h.pl i hi).2⟩,fun i hi j u hu=>keep hB (h.bx i hi j u hu)⟩
end Go.Proofs.YteepphiomcedfaaGreatDoor
