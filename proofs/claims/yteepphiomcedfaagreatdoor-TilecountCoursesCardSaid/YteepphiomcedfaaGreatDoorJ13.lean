/- Joined texts: WPCheck, WPFind, WPNeigh, WEaves. -/
import Derived.Test.YteepphiomcedfaaGreatDoorJ11
import Derived.Test.YteepphiomcedfaaGreatDoorWPCrossed
import Derived.Test.YteepphiomcedfaaGreatDoorJ08
import Derived.Test.YteepphiomcedfaaGreatDoorJ10
import Derived.BigQuiet
set_option maxRecDepth 100000
set_option linter.unusedVariables false
set_option linter.unusedSimpArgs false
set_option maxHeartbeats 6400000
namespace Go.Proofs.YteepphiomcedfaaGreatDoor
open Go.RowKit
end Go.Proofs.YteepphiomcedfaaGreatDoor
namespace Go.Proofs.YteepphiomcedfaaGreatDoor
open Go.RowKit Go.Shelf
attribute [local go_sem] Oper.semAt_some
def S0:Side:=⟨0,0,0,0,false,0,0⟩
theorem BoxA.but {W W':World} {b c:Nat} {A B C:Side} (h:BoxA W b A B C) (hs:SameBut c W W') (hne:b≠c):BoxA W' b A B C:=(hs.block b hne).trans h
theorem Boxed.but {W W':World} {b c:Nat} {t:TypeId} {v:Value} (h:Boxed W b t v) (hs:SameBut c W W') (hne:b≠c):Boxed W' b t v:=(hs.block b hne).trans h
theorem setRow_sameBut (w:World) (b:Nat) (c:Array Value):SameBut b w (w.setRow b c):=⟨rfl,rfl,rfl,by simp [World.setRow],fun k hk=>by
 show (w.heap.modify b _)[k]?=_
 rw [Array.getElem?_modify,if_neg (Ne.symm hk)]⟩
theorem setRow_at {w:World} {b:Nat} {c c':Array Value} {t:TypeId} (h:w.heap[b]?=some (.cells c t (0,0))):(w.setRow b c').heap[b]?=some (.cells c' t (0,0)):=by
 show (w.heap.modify b _)[b]?=_
 rw [Array.getElem?_modify,if_pos rfl,h]
 rfl
theorem keepsFrom_but {m b:Nat} {W W':World} (h:SameBut b W W') (hb:b < m):KeepsFrom m W W':=⟨Nat.le_of_eq h.size.symm,fun k o hk ho _=>(h.block k (by omega)).trans ho⟩
theorem keepsFrom_below {m:Nat} {W W':World} (hB:Below W.heap.size W W'):KeepsFrom m W W':=⟨hB.size,fun k o hk ho _=>(hB.block k (Array.getElem?_eq_some_iff.1 ho).1).trans ho⟩
theorem boxed_new' {X:World} {n:Nat} {t:TypeId} {v:Value} (h:X.heap.size=n):Boxed (X.alloc (.cells #[v] t)) n t v:=by subst h;exact Boxed.new _ _ _
end Go.Proofs.YteepphiomcedfaaGreatDoor
namespace Go.Proofs.YteepphiomcedfaaGreatDoor
open Go.RowKit Go.Shelf
end Go.Proofs.YteepphiomcedfaaGreatDoor
namespace Go.Proofs.YteepphiomcedfaaGreatDoor
open Go.RowKit Go.Shelf
def BoxS (W:World) (b:Nat) (s:Side):Prop:=W.heap[b]?=some (.cells (sideCells s).toArray 71 (0,0))
theorem BoxS.lt {W:World} {b:Nat} {s:Side} (h:BoxS W b s):b < W.heap.size:=(Array.getElem?_eq_some_iff.1 h).1
theorem BoxS.below {w w':World} {b:Nat} {s:Side} (h:BoxS w b s) (hB:Below w.heap.size w w'):BoxS w' b s:=(hB.block b h.lt).trans h
theorem BoxS.but {w w':World} {b c:Nat} {s:Side} (h:BoxS w b s) (hs:SameBut c w w') (hne:b≠c):BoxS w' b s:=(hs.block b hne).trans h
theorem BoxS.at {W:World} {b:Nat} {s:Side} (h:BoxS W b s):SideAt W b 0 s:=by
 have key:∀ o,W.cell? ⟨b,o,none⟩=(sideCells s).toArray[o]?:=by
  intro o
  simp only [World.cell?,show W.heap[b]?=_ from h]
  rfl
 exact ⟨key 0,key 1,key 2,key 3,key 4,key 5,key 6⟩
theorem SideAt.but {w w':World} {b c o:Nat} {s:Side} (h:SideAt w b o s) (hs:SameBut c w w') (hne:b≠c):SideAt w' b o s:=by
 have hc:∀ o,w'.cell? ⟨b,o,none⟩=w.cell? ⟨b,o,none⟩:=fun o=>World.cell?_of_block (hs.block b hne)
 unfold SideAt at *
 simpa only [hc] using h
end Go.Proofs.YteepphiomcedfaaGreatDoor
