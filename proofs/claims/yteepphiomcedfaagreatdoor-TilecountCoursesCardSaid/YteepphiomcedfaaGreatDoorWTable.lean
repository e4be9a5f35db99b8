/- Tables (rows of ints), and the codes of both Checks. -/
import Derived.Test.YteepphiomcedfaaGreatDoorJ15
import Derived.Test.YteepphiomcedfaaGreatDoorJ02
import Derived.Deep.Matrix
import Derived.BigQuiet
set_option maxRecDepth 100000
set_option linter.unusedVariables false
set_option linter.unusedSimpArgs false
set_option maxHeartbeats 6400000
namespace Go.Proofs.YteepphiomcedfaaGreatDoor
open Go.ChangeShapes Go.WideShapes Go.ChangeAt Go.RowKit Go.Deep
def rowT (T:List (List Int)) (k:Nat):List Int:=T.getD k []
def IsTable (w:World) (v:Value) (T:List (List Int)):Prop:=∃ (a:Option Addr) (cap:Nat),v=.slice a T.length cap∧T.length≤maxLen∧(∀ k,(rowT T k).length≤maxLen) ∧
 (T≠[]→∃ b off,a=some ⟨b,off,none⟩∧∀ k,k < T.length→∃ u,w.cell? ⟨b,off+k,none⟩=some u∧IsInts w u (rowT T k))
theorem IsTable.below {w w':World} {v:Value} {T:List (List Int)} (h:IsTable w v T) (hB:Below w.heap.size w w'):IsTable w' v T:=by
 obtain ⟨a,cap,h1,h2,h3,h4⟩:=h
 refine ⟨a,cap,h1,h2,h3,fun hn=>?_⟩
 obtain ⟨b,off,e,hc⟩:=h4 hn
 refine ⟨b,off,e,fun k hk=>?_⟩
 obtain ⟨u,hu,hi⟩:=hc k hk
 exact ⟨u,keep hB hu,hi.below hB⟩
theorem spot_none' {W:World} {a:Addr} {v:Value} (h:W.cell? a=some v):a.spot=none:=by
 unfold World.cell? at h
 split at h
 ·split at h
  ·cases h
  ·rename_i hs;simpa using hs
 ·cases h
theorem add_none {W:World} {a:Addr} {v:Value} {i:Nat} (h:W.cell? (a.add i)=some v):a.add i=⟨a.block,a.off+i,none⟩:=by
 have hsp:=spot_none' h
 by_cases hz:i=0
 ·subst hz
  cases a
  simp [Addr.add] at hsp ⊢
  exact hsp
 ·simp [Addr.add,hz]
theorem at_none {W:World} {a:Addr} {v:Value} (h:W.cell? (a.add 0)=some v):a=⟨a.block,a.off,none⟩:=by
 have:=add_none h
 cases a
 simp [Addr.add] at this ⊢
 exact this
def rowCode (T:List (List Int)) (k:Nat):Int :=
 if (rowT T k).length≠2 then 9
 else if lim (rowT T k) 0 < 1∨1000 < lim (rowT T k) 0∨lim (rowT T k) 1 < 1∨1048576 < lim (rowT T k) 1 then 2
 else if 0 < k∧(lim (rowT T k) 0≤lim (rowT T (k - 1)) 0∨lim (rowT T k) 1≤lim (rowT T (k - 1)) 1) then 10 else 0
def CodeT (T:List (List Int)) (c:Int):Prop:=(T.length=0∧c=5)∨(T.length≠0∧c≠0∧∃ k,k < T.length∧(∀ j,j < k→rowCode T j=0)∧rowCode T k=c)∨(T.length≠0∧c=0∧∀ j,j < T.length→rowCode T j=0)
end Go.Proofs.YteepphiomcedfaaGreatDoor
